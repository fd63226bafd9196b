/-
  Walks, merged.
  Conditions: none.
-/
import Derived.Test.YtgaodljkmdafdaaZPre
import Derived.Test.YtgaodljkmdafdaaZPure
import Derived.Test.YtgaodljkmdafdaaZDel31
import Derived.Test.YtgaodljkmdafdaaZIns28
import Derived.Test.YtgaodljkmdafdaaZB2
set_option linter.unusedVariables false
set_option linter.unusedSimpArgs false
namespace Go.Ws
open Go.Proofs
set_option linter.unusedSimpArgs false
set_option linter.unusedVariables false
set_option maxRecDepth 1000000
set_option maxHeartbeats 4000000
noncomputable def X12 : Ctx := ⟨Try.f12, [], true⟩
noncomputable def L12_0 : Code := at_ Try.f12 [1, 1, 0, 1, 4, 5]
def S12_0 (x1 : Int) (x2 : List (Int × Int)) (v12001_1 : Int) (v12001_2 : List (Int × Int)) : St := ⟨mkT 24 [(2, (.hp 0 0)), (3, (.hp 1 0)), (10, (.sl 2 (List.map e_i64_i64 x2))), (11, (.int .i64 (nI x2.length))), (12, (.int .i64 v12001_1))], [(.row [(.int .i64 0), .nils]), (.row [(.int .i64 x1), (.ref 2 2 0 0 v12001_2.length .virt)]), (.arr 2 (List.map e_i64_i64 v12001_2) 0 0 false)]⟩
def E12_0_0 (x1 : Int) (v12002_1 : List (Int × Int)) : St := ⟨mkT 24 [(2, (.hp 0 0)), (3, (.hp 1 0))], [(.row [(.int .i64 0), .nils]), (.row [(.int .i64 x1), (.ref 2 2 0 0 v12002_1.length .virt)]), (.arr 2 (List.map e_i64_i64 v12002_1) 0 0 false)]⟩
def O12_0 (x1 : Int) (x2 : List (Int × Int)) (y : ((List (Int × Int)))) : GX := .st (.exit 0) (E12_0_0 x1 y)
theorem ok_law06_Theirs_l0 (x1 : Int) (x2 : List (Int × Int)) (y : ((List (Int × Int)))) : ∀ (k : Nat) (v12001_1 : Int) (v12001_2 : List (Int × Int)), law06_Theirs_l0 k x1 x2 v12001_1 v12001_2 = some y → LT Try.prog X12 L12_0 (S12_0 x1 x2 v12001_1 v12001_2) (O12_0 x1 x2 y)
  | 0, v12001_1, v12001_2, h => by cases h
  | k + 1, v12001_1, v12001_2, h => by
    rw [law06_Theirs_l0] at h
    by_cases cL0 : ltI v12001_1 (nI x2.length) = true
    · rw [if_pos cL0] at h
      by_cases cL1 : inI v12001_1 x2.length = true
      · rw [if_pos cL1] at h
        obtain ⟨v12000_1, eL2, h⟩ := Option.bind_eq_some_iff.1 h
        by_cases cL3 : roomI (((v12001_2 ++ [v12000_1]).length) * 16) = true
        · rw [if_pos cL3] at h
          exact LT.next mixed (hs := ⟨[(2, []), (3, []), (10, []), (11, []), (12, [])], [⟨.tmp 2, [], none⟩, ⟨.tmp 3, [], none⟩, ⟨.cell 1 1, [], some 2⟩], false, [], []⟩) (es := none) [.d true, .n x2.length, .row [(.int .i64 v12000_1.1), (.int .i64 v12000_1.2)], .rows (List.map e_i64_i64 [v12000_1]), .n ((v12001_2 ++ [v12000_1]).length), .n v12001_2.length, .d true, .rows (List.map e_i64_i64 (v12001_2 ++ [v12000_1])), .n ((v12001_2 ++ [v12000_1]).length), .rows (List.map e_i64_i64 (v12001_2 ++ [v12000_1]))] [⟨(take_all e_i64_i64 (l := (v12001_2 ++ [v12000_1])) (n := ((v12001_2 ++ [v12000_1]).length)) rfl)⟩, ⟨(rfl : (v12001_2 ++ [v12000_1]).length = (v12001_2 ++ [v12000_1]).length)⟩, ⟨(zle ((v12001_2 ++ [v12000_1]).length))⟩, ⟨(app_map e_i64_i64 v12001_2 [v12000_1])⟩, ⟨(eqN_self v12001_2.length)⟩, ⟨(len_map e_i64_i64 v12001_2)⟩, ⟨cL3⟩, ⟨(by simp only [List.length_append, List.length_cons, List.length_nil, List.length_take, List.length_drop, List.length_set, List.length_replicate, List.length_map, List.map_nil, List.map_cons] <;> omega : v12001_2.length + (List.map e_i64_i64 [v12000_1]).length = (v12001_2 ++ [v12000_1]).length)⟩, ⟨(part_all e_i64_i64 (l := [v12000_1]) (n := 1) rfl)⟩, ⟨(le_map e_i64_i64 (Nat.le_refl 1) : 0 + 1 ≤ (List.map e_i64_i64 [v12000_1]).length)⟩, ⟨(cells_map (e := e_i64_i64) eL2 2 0 2 (by decide))⟩, ⟨cL1⟩, ⟨(len_map e_i64_i64 x2)⟩, ⟨cL0⟩] (by kernel_rfl) (ok_law06_Theirs_l0 x1 x2 y k (iadd .i64 v12001_1 1) (v12001_2 ++ [v12000_1]) h)
        · rw [if_neg cL3] at h
          replace cL3 := eqf cL3
          cases h
      · rw [if_neg cL1] at h
        replace cL1 := eqf cL1
        cases h
    · rw [if_neg cL0] at h
      replace cL0 := eqf cL0
      obtain rfl := Option.some.inj h
      show LT _ _ _ _ (.st (.exit 0) (E12_0_0 x1 v12001_2))
      exact LT.done mixed (hs := ⟨[], [], false, [], []⟩) (es := (some ⟨[(2, []), (3, [])], [⟨.tmp 2, [], none⟩, ⟨.tmp 3, [], none⟩, ⟨.cell 1 1, [], none⟩], false, [], []⟩)) [.d false] [⟨cL0⟩] (by kernel_rfl) (fun s h => by cases h)
theorem ok_law06_Theirs (k : Nat) (x1 : Int) (x2 : List (Int × Int)) (r : Int × (List (Int × Int))) (h : law06_Theirs k x1 x2 = some r) : Tri Try.prog 12 [(.agg [(.int .i64 x1), (.sl 2 (List.map e_i64_i64 x2))])] [] (.agg [(.int .i64 r.1), (.sl 2 (List.map e_i64_i64 r.2))]) [] := by
    unfold law06_Theirs at h
    obtain ⟨x4, e0, h⟩ := Option.bind_eq_some_iff.1 h
    obtain rfl := Option.some.inj h
    exact Tri.of (x := X12) mixed facts12 [.n x2.length, .norm 2 ⟨[(2, []), (3, []), (10, []), (11, []), (12, [])], [⟨.tmp 2, [], none⟩, ⟨.tmp 3, [], none⟩, ⟨.cell 1 1, [], some 2⟩], false, [], []⟩, .n 0, .rows (List.map e_i64_i64 []), .out (.st .normal (E12_0_0 x1 x4)), .rows (List.map e_i64_i64 x4)] [⟨(part_all e_i64_i64 (l := x4) (n := x4.length) rfl)⟩, ⟨(le_map e_i64_i64 (Nat.le_refl x4.length) : 0 + x4.length ≤ (List.map e_i64_i64 x4).length)⟩, ⟨(LT.block (ok_law06_Theirs_l0 x1 x2 _ k 0 [] e0))⟩, ⟨(take_all e_i64_i64 (l := []) (n := 0) rfl)⟩, ⟨(rfl : 0 = 0)⟩, ⟨(zle 0)⟩, ⟨(len_map e_i64_i64 x2)⟩] (by kernel_rfl)
end Go.Ws

namespace Go.Ws
open Go.Proofs
set_option linter.unusedSimpArgs false
set_option linter.unusedVariables false
set_option maxRecDepth 1000000
set_option maxHeartbeats 4000000
noncomputable def X22 : Ctx := ⟨Try.f22, [], true⟩
noncomputable def L22_0 : Code := at_ Try.f22 [1, 1, 0, 1, 4, 5]
def S22_0 (x1 : Int) (x2 : List (Int × Int)) (v22001_1 : Int) (v22001_2 : List (Int × Int)) : St := ⟨mkT 24 [(2, (.hp 0 0)), (3, (.hp 1 0)), (10, (.sl 2 (List.map e_i64_i64 x2))), (11, (.int .i64 (nI x2.length))), (12, (.int .i64 v22001_1))], [(.row [(.int .i64 0), .nils]), (.row [(.int .i64 x1), (.ref 2 2 0 0 v22001_2.length .virt)]), (.arr 2 (List.map e_i64_i64 v22001_2) 0 0 false)]⟩
def E22_0_0 (x1 : Int) (v22002_1 : List (Int × Int)) : St := ⟨mkT 24 [(2, (.hp 0 0)), (3, (.hp 1 0))], [(.row [(.int .i64 0), .nils]), (.row [(.int .i64 x1), (.ref 2 2 0 0 v22002_1.length .virt)]), (.arr 2 (List.map e_i64_i64 v22002_1) 0 0 false)]⟩
def O22_0 (x1 : Int) (x2 : List (Int × Int)) (y : ((List (Int × Int)))) : GX := .st (.exit 0) (E22_0_0 x1 y)
theorem ok_law06_Ours_l0 (x1 : Int) (x2 : List (Int × Int)) (y : ((List (Int × Int)))) : ∀ (k : Nat) (v22001_1 : Int) (v22001_2 : List (Int × Int)), law06_Ours_l0 k x1 x2 v22001_1 v22001_2 = some y → LT Try.prog X22 L22_0 (S22_0 x1 x2 v22001_1 v22001_2) (O22_0 x1 x2 y)
  | 0, v22001_1, v22001_2, h => by cases h
  | k + 1, v22001_1, v22001_2, h => by
    rw [law06_Ours_l0] at h
    by_cases cL0 : ltI v22001_1 (nI x2.length) = true
    · rw [if_pos cL0] at h
      by_cases cL1 : inI v22001_1 x2.length = true
      · rw [if_pos cL1] at h
        obtain ⟨v22000_1, eL2, h⟩ := Option.bind_eq_some_iff.1 h
        by_cases cL3 : roomI (((v22001_2 ++ [v22000_1]).length) * 16) = true
        · rw [if_pos cL3] at h
          exact LT.next mixed (hs := ⟨[(2, []), (3, []), (10, []), (11, []), (12, [])], [⟨.tmp 2, [], none⟩, ⟨.tmp 3, [], none⟩, ⟨.cell 1 1, [], some 2⟩], false, [], []⟩) (es := none) [.d true, .n x2.length, .row [(.int .i64 v22000_1.1), (.int .i64 v22000_1.2)], .rows (List.map e_i64_i64 [v22000_1]), .n ((v22001_2 ++ [v22000_1]).length), .n v22001_2.length, .d true, .rows (List.map e_i64_i64 (v22001_2 ++ [v22000_1])), .n ((v22001_2 ++ [v22000_1]).length), .rows (List.map e_i64_i64 (v22001_2 ++ [v22000_1]))] [⟨(take_all e_i64_i64 (l := (v22001_2 ++ [v22000_1])) (n := ((v22001_2 ++ [v22000_1]).length)) rfl)⟩, ⟨(rfl : (v22001_2 ++ [v22000_1]).length = (v22001_2 ++ [v22000_1]).length)⟩, ⟨(zle ((v22001_2 ++ [v22000_1]).length))⟩, ⟨(app_map e_i64_i64 v22001_2 [v22000_1])⟩, ⟨(eqN_self v22001_2.length)⟩, ⟨(len_map e_i64_i64 v22001_2)⟩, ⟨cL3⟩, ⟨(by simp only [List.length_append, List.length_cons, List.length_nil, List.length_take, List.length_drop, List.length_set, List.length_replicate, List.length_map, List.map_nil, List.map_cons] <;> omega : v22001_2.length + (List.map e_i64_i64 [v22000_1]).length = (v22001_2 ++ [v22000_1]).length)⟩, ⟨(part_all e_i64_i64 (l := [v22000_1]) (n := 1) rfl)⟩, ⟨(le_map e_i64_i64 (Nat.le_refl 1) : 0 + 1 ≤ (List.map e_i64_i64 [v22000_1]).length)⟩, ⟨(cells_map (e := e_i64_i64) eL2 2 0 2 (by decide))⟩, ⟨cL1⟩, ⟨(len_map e_i64_i64 x2)⟩, ⟨cL0⟩] (by kernel_rfl) (ok_law06_Ours_l0 x1 x2 y k (iadd .i64 v22001_1 1) (v22001_2 ++ [v22000_1]) h)
        · rw [if_neg cL3] at h
          replace cL3 := eqf cL3
          cases h
      · rw [if_neg cL1] at h
        replace cL1 := eqf cL1
        cases h
    · rw [if_neg cL0] at h
      replace cL0 := eqf cL0
      obtain rfl := Option.some.inj h
      show LT _ _ _ _ (.st (.exit 0) (E22_0_0 x1 v22001_2))
      exact LT.done mixed (hs := ⟨[], [], false, [], []⟩) (es := (some ⟨[(2, []), (3, [])], [⟨.tmp 2, [], none⟩, ⟨.tmp 3, [], none⟩, ⟨.cell 1 1, [], none⟩], false, [], []⟩)) [.d false] [⟨cL0⟩] (by kernel_rfl) (fun s h => by cases h)
theorem ok_law06_Ours (k : Nat) (x1 : Int) (x2 : List (Int × Int)) (r : Int × (List (Int × Int))) (h : law06_Ours k x1 x2 = some r) : Tri Try.prog 22 [(.agg [(.int .i64 x1), (.sl 2 (List.map e_i64_i64 x2))])] [] (.agg [(.int .i64 r.1), (.sl 2 (List.map e_i64_i64 r.2))]) [] := by
    unfold law06_Ours at h
    obtain ⟨x4, e0, h⟩ := Option.bind_eq_some_iff.1 h
    obtain rfl := Option.some.inj h
    exact Tri.of (x := X22) mixed facts22 [.n x2.length, .norm 2 ⟨[(2, []), (3, []), (10, []), (11, []), (12, [])], [⟨.tmp 2, [], none⟩, ⟨.tmp 3, [], none⟩, ⟨.cell 1 1, [], some 2⟩], false, [], []⟩, .n 0, .rows (List.map e_i64_i64 []), .out (.st .normal (E22_0_0 x1 x4)), .rows (List.map e_i64_i64 x4)] [⟨(part_all e_i64_i64 (l := x4) (n := x4.length) rfl)⟩, ⟨(le_map e_i64_i64 (Nat.le_refl x4.length) : 0 + x4.length ≤ (List.map e_i64_i64 x4).length)⟩, ⟨(LT.block (ok_law06_Ours_l0 x1 x2 _ k 0 [] e0))⟩, ⟨(take_all e_i64_i64 (l := []) (n := 0) rfl)⟩, ⟨(rfl : 0 = 0)⟩, ⟨(zle 0)⟩, ⟨(len_map e_i64_i64 x2)⟩] (by kernel_rfl)
end Go.Ws

namespace Go.Ws
open Go.Proofs
set_option linter.unusedSimpArgs false
set_option linter.unusedVariables false
set_option maxRecDepth 1000000
set_option maxHeartbeats 4000000
noncomputable def X23 : Ctx := ⟨Try.f23, [], true⟩
noncomputable def L23_0 : Code := at_ Try.f23 [1, 1, 0, 1, 4, 5]
def S23_0 (x1 : List Int) (x2 : List Int) (v23001_1 : Int) : St := ⟨mkT 26 [(0, (.sl 1 (List.map e_i64 x1))), (1, (.sl 1 (List.map e_i64 x2))), (12, (.int .i64 (nI x1.length))), (13, (.int .i64 v23001_1))], []⟩
def E23_0_0 : St := ⟨mkT 26 [], []⟩
def O23_0 (x1 : List Int) (x2 : List Int) (y : (Sum (Unit) (Bool))) : GX := match y with
  | .inl y => .st (.exit 0) (E23_0_0)
  | .inr y => .fin (.bool y) []
theorem ok_law06_same_l0 (x1 : List Int) (x2 : List Int) (y : (Sum (Unit) (Bool))) : ∀ (k : Nat) (v23001_1 : Int), law06_same_l0 k x1 x2 v23001_1 = some y → LT Try.prog X23 L23_0 (S23_0 x1 x2 v23001_1) (O23_0 x1 x2 y)
  | 0, v23001_1, h => by cases h
  | k + 1, v23001_1, h => by
    rw [law06_same_l0] at h
    by_cases cL0 : ltI v23001_1 (nI x1.length) = true
    · rw [if_pos cL0] at h
      by_cases cL1 : inI v23001_1 x1.length = true
      · rw [if_pos cL1] at h
        obtain ⟨v23000_1, eL2, h⟩ := Option.bind_eq_some_iff.1 h
        by_cases cL3 : inI v23001_1 x2.length = true
        · rw [if_pos cL3] at h
          obtain ⟨v23000_2, eL4, h⟩ := Option.bind_eq_some_iff.1 h
          by_cases cL5 : eqI v23000_1 v23000_2 = true
          · rw [if_pos cL5] at h
            exact LT.next mixed (hs := ⟨[(0, []), (1, []), (12, []), (13, [])], [], false, [], []⟩) (es := none) [.d true, .n x1.length, .row [(.int .i64 v23000_1)], .n x2.length, .row [(.int .i64 v23000_2)], .d false] [⟨(nF cL5)⟩, ⟨(cells_map (e := e_i64) eL4 1 0 1 (by decide))⟩, ⟨cL3⟩, ⟨(len_map e_i64 x2)⟩, ⟨(cells_map (e := e_i64) eL2 1 0 1 (by decide))⟩, ⟨cL1⟩, ⟨(len_map e_i64 x1)⟩, ⟨cL0⟩] (by kernel_rfl) (ok_law06_same_l0 x1 x2 y k (iadd .i64 v23001_1 1) h)
          · rw [if_neg cL5] at h
            replace cL5 := eqf cL5
            obtain rfl := Option.some.inj h
            show LT _ _ _ _ (.fin (.bool false) [])
            exact LT.done mixed (hs := ⟨[], [], false, [], []⟩) (es := none) [.d true, .n x1.length, .row [(.int .i64 v23000_1)], .n x2.length, .row [(.int .i64 v23000_2)], .d true] [⟨(nT cL5)⟩, ⟨(cells_map (e := e_i64) eL4 1 0 1 (by decide))⟩, ⟨cL3⟩, ⟨(len_map e_i64 x2)⟩, ⟨(cells_map (e := e_i64) eL2 1 0 1 (by decide))⟩, ⟨cL1⟩, ⟨(len_map e_i64 x1)⟩, ⟨cL0⟩] (by kernel_rfl) (fun s h => by cases h)
        · rw [if_neg cL3] at h
          replace cL3 := eqf cL3
          cases h
      · rw [if_neg cL1] at h
        replace cL1 := eqf cL1
        cases h
    · rw [if_neg cL0] at h
      replace cL0 := eqf cL0
      obtain rfl := Option.some.inj h
      show LT _ _ _ _ (.st (.exit 0) (E23_0_0))
      exact LT.done mixed (hs := ⟨[], [], false, [], []⟩) (es := (some ⟨[], [], false, [], []⟩)) [.d false] [⟨cL0⟩] (by kernel_rfl) (fun s h => by cases h)
theorem ok_law06_same (k : Nat) (x1 : List Int) (x2 : List Int) (r : Bool) (h : law06_same k x1 x2 = some r) : Tri Try.prog 23 [(.sl 1 (List.map e_i64 x1)), (.sl 1 (List.map e_i64 x2))] [] (.bool r) [] := by
    unfold law06_same at h
    by_cases c0 : eqI (nI x1.length) (nI x2.length) = true
    · rw [if_pos c0] at h
      obtain ⟨x3, e1, h⟩ := Option.bind_eq_some_iff.1 h
      cases x3 with
      | inl x4 =>
        simp only [Sum.elim_inl] at h
        obtain rfl := Option.some.inj h
        exact Tri.of (x := X23) mixed facts23 [.n x1.length, .n x2.length, .d false, .n x1.length, .norm 2 ⟨[(0, []), (1, []), (12, []), (13, [])], [], false, [], []⟩, .out (.st .normal (E23_0_0))] [⟨(LT.block (ok_law06_same_l0 x1 x2 _ k 0 e1))⟩, ⟨(len_map e_i64 x1)⟩, ⟨(nF c0)⟩, ⟨(len_map e_i64 x2)⟩, ⟨(len_map e_i64 x1)⟩] (by kernel_rfl)
      | inr x4 =>
        simp only [Sum.elim_inr] at h
        obtain rfl := Option.some.inj h
        exact Tri.of (x := X23) mixed facts23 [.n x1.length, .n x2.length, .d false, .n x1.length, .norm 2 ⟨[(0, []), (1, []), (12, []), (13, [])], [], false, [], []⟩, .out (.fin (.bool x4) [])] [⟨(LT.blockFin (id := 0) (ok_law06_same_l0 x1 x2 _ k 0 e1))⟩, ⟨(len_map e_i64 x1)⟩, ⟨(nF c0)⟩, ⟨(len_map e_i64 x2)⟩, ⟨(len_map e_i64 x1)⟩] (by kernel_rfl)
    · rw [if_neg c0] at h
      replace c0 := eqf c0
      obtain rfl := Option.some.inj h
      exact Tri.of (x := X23) mixed facts23 [.n x1.length, .n x2.length, .d true] [⟨(nT c0)⟩, ⟨(len_map e_i64 x2)⟩, ⟨(len_map e_i64 x1)⟩] (by kernel_rfl)
end Go.Ws

namespace Go.Ws
open Go.Proofs
set_option linter.unusedSimpArgs false
set_option linter.unusedVariables false
set_option maxRecDepth 1000000
set_option maxHeartbeats 4000000
noncomputable def X21 : Ctx := ⟨Try.f21, [], true⟩
noncomputable def L21_0 : Code := at_ Try.f21 [1, 1, 0, 1, 4, 5]
def S21_0 (x1 : Int) (x2 : List (Int × Int)) (x3 : Int) (x4 : List (Int × Int)) (v21001_1 : Int) : St := ⟨mkT 38 [(2, (.hp 0 0)), (3, (.hp 1 0)), (5, (.int .i64 v21001_1))], [(.row [(.int .i64 x1), (.sl 2 (List.map e_i64_i64 x2))]), (.row [(.int .i64 x3), (.sl 2 (List.map e_i64_i64 x4))])]⟩
def E21_0_0 : St := ⟨mkT 38 [], []⟩
def O21_0 (x1 : Int) (x2 : List (Int × Int)) (x3 : Int) (x4 : List (Int × Int)) (y : (Sum (Unit) (Bool))) : GX := match y with
  | .inl y => .st (.exit 0) (E21_0_0)
  | .inr y => .fin (.bool y) []
theorem ok_ref06_Same_l0 (x1 : Int) (x2 : List (Int × Int)) (x3 : Int) (x4 : List (Int × Int)) (y : (Sum (Unit) (Bool))) : ∀ (k : Nat) (v21001_1 : Int), ref06_Same_l0 k x1 x2 x3 x4 v21001_1 = some y → LT Try.prog X21 L21_0 (S21_0 x1 x2 x3 x4 v21001_1) (O21_0 x1 x2 x3 x4 y)
  | 0, v21001_1, h => by cases h
  | k + 1, v21001_1, h => by
    rw [ref06_Same_l0] at h
    by_cases cL0 : ltI v21001_1 (nI x2.length) = true
    · rw [if_pos cL0] at h
      by_cases cL1 : inI v21001_1 x2.length = true
      · rw [if_pos cL1] at h
        obtain ⟨v21000_1, eL2, h⟩ := Option.bind_eq_some_iff.1 h
        by_cases cL3 : inI v21001_1 x4.length = true
        · rw [if_pos cL3] at h
          obtain ⟨v21000_2, eL4, h⟩ := Option.bind_eq_some_iff.1 h
          by_cases cL5 : eqI v21000_1.1 v21000_2.1 = true
          · rw [if_pos cL5] at h
            by_cases cL6 : eqI v21000_1.2 v21000_2.2 = true
            · rw [if_pos cL6] at h
              exact LT.next mixed (hs := ⟨[(2, []), (3, []), (5, [])], [⟨.tmp 2, [], none⟩, ⟨.tmp 3, [], none⟩], false, [], []⟩) (es := none) [.n x2.length, .d true, .n x2.length, .row [(.int .i64 v21000_1.1), (.int .i64 v21000_1.2)], .n x4.length, .row [(.int .i64 v21000_2.1), (.int .i64 v21000_2.2)], .d false] [⟨(nF (aT cL5 cL6))⟩, ⟨(cells_map (e := e_i64_i64) eL4 2 0 2 (by decide))⟩, ⟨cL3⟩, ⟨(len_map e_i64_i64 x4)⟩, ⟨(cells_map (e := e_i64_i64) eL2 2 0 2 (by decide))⟩, ⟨cL1⟩, ⟨(len_map e_i64_i64 x2)⟩, ⟨cL0⟩, ⟨(len_map e_i64_i64 x2)⟩] (by kernel_rfl) (ok_ref06_Same_l0 x1 x2 x3 x4 y k (iadd .i64 v21001_1 1) h)
            · rw [if_neg cL6] at h
              replace cL6 := eqf cL6
              obtain rfl := Option.some.inj h
              show LT _ _ _ _ (.fin (.bool false) [])
              exact LT.done mixed (hs := ⟨[], [], false, [], []⟩) (es := none) [.n x2.length, .d true, .n x2.length, .row [(.int .i64 v21000_1.1), (.int .i64 v21000_1.2)], .n x4.length, .row [(.int .i64 v21000_2.1), (.int .i64 v21000_2.2)], .d true] [⟨(nT (aF2 cL5 cL6))⟩, ⟨(cells_map (e := e_i64_i64) eL4 2 0 2 (by decide))⟩, ⟨cL3⟩, ⟨(len_map e_i64_i64 x4)⟩, ⟨(cells_map (e := e_i64_i64) eL2 2 0 2 (by decide))⟩, ⟨cL1⟩, ⟨(len_map e_i64_i64 x2)⟩, ⟨cL0⟩, ⟨(len_map e_i64_i64 x2)⟩] (by kernel_rfl) (fun s h => by cases h)
          · rw [if_neg cL5] at h
            replace cL5 := eqf cL5
            obtain rfl := Option.some.inj h
            show LT _ _ _ _ (.fin (.bool false) [])
            exact LT.done mixed (hs := ⟨[], [], false, [], []⟩) (es := none) [.n x2.length, .d true, .n x2.length, .row [(.int .i64 v21000_1.1), (.int .i64 v21000_1.2)], .n x4.length, .row [(.int .i64 v21000_2.1), (.int .i64 v21000_2.2)], .d true] [⟨(nT (aF1 (b := eqI v21000_1.2 v21000_2.2) cL5))⟩, ⟨(cells_map (e := e_i64_i64) eL4 2 0 2 (by decide))⟩, ⟨cL3⟩, ⟨(len_map e_i64_i64 x4)⟩, ⟨(cells_map (e := e_i64_i64) eL2 2 0 2 (by decide))⟩, ⟨cL1⟩, ⟨(len_map e_i64_i64 x2)⟩, ⟨cL0⟩, ⟨(len_map e_i64_i64 x2)⟩] (by kernel_rfl) (fun s h => by cases h)
        · rw [if_neg cL3] at h
          replace cL3 := eqf cL3
          cases h
      · rw [if_neg cL1] at h
        replace cL1 := eqf cL1
        cases h
    · rw [if_neg cL0] at h
      replace cL0 := eqf cL0
      obtain rfl := Option.some.inj h
      show LT _ _ _ _ (.st (.exit 0) (E21_0_0))
      exact LT.done mixed (hs := ⟨[], [], false, [], []⟩) (es := (some ⟨[], [], false, [], []⟩)) [.n x2.length, .d false] [⟨cL0⟩, ⟨(len_map e_i64_i64 x2)⟩] (by kernel_rfl) (fun s h => by cases h)
theorem ok_ref06_Same (k : Nat) (x1 : Int) (x2 : List (Int × Int)) (x3 : Int) (x4 : List (Int × Int)) (r : Bool) (h : ref06_Same k x1 x2 x3 x4 = some r) : Tri Try.prog 21 [(.agg [(.int .i64 x1), (.sl 2 (List.map e_i64_i64 x2))]), (.agg [(.int .i64 x3), (.sl 2 (List.map e_i64_i64 x4))])] [] (.bool r) [] := by
    unfold ref06_Same at h
    by_cases c0 : eqI x1 x3 = true
    · rw [if_pos c0] at h
      by_cases c1 : eqI (nI x2.length) (nI x4.length) = true
      · rw [if_pos c1] at h
        obtain ⟨x5, e2, h⟩ := Option.bind_eq_some_iff.1 h
        cases x5 with
        | inl x6 =>
          simp only [Sum.elim_inl] at h
          obtain rfl := Option.some.inj h
          exact Tri.of (x := X21) mixed facts21 [.d false, .d false, .d false, .n x2.length, .d false, .d false, .d false, .n x4.length, .d false, .d false, .d false, .norm 2 ⟨[(2, []), (3, []), (5, [])], [⟨.tmp 2, [], none⟩, ⟨.tmp 3, [], none⟩], false, [], []⟩, .out (.st .normal (E21_0_0))] [⟨(LT.block (ok_ref06_Same_l0 x1 x2 x3 x4 _ k 0 e2))⟩, ⟨(nF c1)⟩, ⟨(nF c0)⟩, ⟨(nF c0)⟩, ⟨(len_map e_i64_i64 x4)⟩, ⟨(nF c0)⟩, ⟨(nF c0)⟩, ⟨(nF c0)⟩, ⟨(len_map e_i64_i64 x2)⟩, ⟨(nF c0)⟩, ⟨(nF c0)⟩, ⟨(nF c0)⟩] (by kernel_rfl)
        | inr x6 =>
          simp only [Sum.elim_inr] at h
          obtain rfl := Option.some.inj h
          exact Tri.of (x := X21) mixed facts21 [.d false, .d false, .d false, .n x2.length, .d false, .d false, .d false, .n x4.length, .d false, .d false, .d false, .norm 2 ⟨[(2, []), (3, []), (5, [])], [⟨.tmp 2, [], none⟩, ⟨.tmp 3, [], none⟩], false, [], []⟩, .out (.fin (.bool x6) [])] [⟨(LT.blockFin (id := 0) (ok_ref06_Same_l0 x1 x2 x3 x4 _ k 0 e2))⟩, ⟨(nF c1)⟩, ⟨(nF c0)⟩, ⟨(nF c0)⟩, ⟨(len_map e_i64_i64 x4)⟩, ⟨(nF c0)⟩, ⟨(nF c0)⟩, ⟨(nF c0)⟩, ⟨(len_map e_i64_i64 x2)⟩, ⟨(nF c0)⟩, ⟨(nF c0)⟩, ⟨(nF c0)⟩] (by kernel_rfl)
      · rw [if_neg c1] at h
        replace c1 := eqf c1
        obtain rfl := Option.some.inj h
        exact Tri.of (x := X21) mixed facts21 [.d false, .d false, .d false, .n x2.length, .d false, .d false, .d false, .n x4.length, .d false, .d false, .d true] [⟨(nT c1)⟩, ⟨(nF c0)⟩, ⟨(nF c0)⟩, ⟨(len_map e_i64_i64 x4)⟩, ⟨(nF c0)⟩, ⟨(nF c0)⟩, ⟨(nF c0)⟩, ⟨(len_map e_i64_i64 x2)⟩, ⟨(nF c0)⟩, ⟨(nF c0)⟩, ⟨(nF c0)⟩] (by kernel_rfl)
    · rw [if_neg c0] at h
      replace c0 := eqf c0
      obtain rfl := Option.some.inj h
      exact Tri.of (x := X21) mixed facts21 [.d true, .d true, .d true, .d true, .d true, .d true, .d true, .d true, .d true] [⟨(rfl : true = true)⟩, ⟨(nT c0)⟩, ⟨(nT c0)⟩, ⟨(nT c0)⟩, ⟨(nT c0)⟩, ⟨(nT c0)⟩, ⟨(nT c0)⟩, ⟨(nT c0)⟩, ⟨(nT c0)⟩] (by kernel_rfl)
end Go.Ws

namespace Go.Ws
open Go.Proofs
set_option linter.unusedSimpArgs false
set_option linter.unusedVariables false
set_option maxRecDepth 1000000
set_option maxHeartbeats 4000000
noncomputable def X30 : Ctx := ⟨Try.f30, [], true⟩
theorem ok_ref06_ahead (x1 : Int) (x2 : Int) (x3 : Int) (x4 : Int) : Tri Try.prog 30 [(.agg [(.int .i64 x1), (.int .i64 x2)]), (.agg [(.int .i64 x3), (.int .i64 x4)])] [] (.bool (ref06_ahead x1 x2 x3 x4)) [] := by
    obtain ⟨r, h⟩ : ∃ r, ref06_ahead x1 x2 x3 x4 = r := ⟨_, rfl⟩
    try rw [h]
    unfold ref06_ahead at h
    by_cases c0 : ltI x2 x4 = true
    · rw [if_pos c0] at h
      obtain rfl := h
      exact Tri.of (x := X30) mixed facts30 [.d true, .d true, .d true, .d true, .d true, .d true, .d true, .d true] [⟨c0⟩, ⟨c0⟩, ⟨c0⟩, ⟨c0⟩, ⟨c0⟩, ⟨c0⟩, ⟨c0⟩, ⟨c0⟩] (by kernel_rfl)
    · rw [if_neg c0] at h
      replace c0 := eqf c0
      by_cases c1 : eqI x2 x4 = true
      · rw [if_pos c1] at h
        obtain rfl := h
        exact Tri.of (x := X30) mixed facts30 [.d false, .d false, .d false, .d false, .d false, .d false, .d true, .d true, .d true, .d true, .d true, .d false, .d true, .d false] [⟨c0⟩, ⟨c1⟩, ⟨c0⟩, ⟨c1⟩, ⟨c1⟩, ⟨c1⟩, ⟨c1⟩, ⟨c1⟩, ⟨c0⟩, ⟨c0⟩, ⟨c0⟩, ⟨c0⟩, ⟨c0⟩, ⟨c0⟩] (by kernel_rfl)
      · rw [if_neg c1] at h
        replace c1 := eqf c1
        obtain rfl := h
        exact Tri.of (x := X30) mixed facts30 [.d false, .d false, .d false, .d false, .d false, .d false, .d false, .d false, .d false, .d false, .d false, .d false, .d false, .d false] [⟨c0⟩, ⟨c1⟩, ⟨c0⟩, ⟨c1⟩, ⟨c1⟩, ⟨c1⟩, ⟨c1⟩, ⟨c1⟩, ⟨c0⟩, ⟨c0⟩, ⟨c0⟩, ⟨c0⟩, ⟨c0⟩, ⟨c0⟩] (by kernel_rfl)
end Go.Ws

namespace Go.Ws
open Go.Proofs
set_option linter.unusedSimpArgs false
set_option linter.unusedVariables false
set_option maxRecDepth 1000000
set_option maxHeartbeats 4000000
noncomputable def X19 : Ctx := ⟨Try.f19, [], true⟩
noncomputable def L19_1 : Code := at_ Try.f19 [1, 0, 1, 4, 5, 1, 0, 4, 1, 1, 1, 4, 5]
def S19_1 (x1 : Int) (x2 : List (Int × Int)) (v19000_1 : Int × Int) (v19011_1 : Int) (v19011_2 : Int) : St := ⟨mkT 71 [(1, (.hp 0 0)), (3, (.int .i64 v19011_1)), (4, (.hp 1 0)), (5, (.int .i64 v19011_2))], [(.row [(.int .i64 x1), (.sl 2 (List.map e_i64_i64 x2))]), (.row [(.int .i64 v19000_1.1), (.int .i64 v19000_1.2)])]⟩
def E19_1_2 (x1 : Int) (x2 : List (Int × Int)) (v19012_1 : Int) : St := ⟨mkT 71 [(1, (.hp 0 0)), (3, (.int .i64 v19012_1))], [(.row [(.int .i64 x1), (.sl 2 (List.map e_i64_i64 x2))])]⟩
def O19_1 (x1 : Int) (x2 : List (Int × Int)) (v19000_1 : Int × Int) (y : (Sum (Int) (Bool))) : GX := match y with
  | .inl y => .st (.exit 2) (E19_1_2 x1 x2 y)
  | .inr y => .fin (.bool y) []
noncomputable def L19_0 : Code := at_ Try.f19 [1, 0, 1, 4, 5]
def S19_0 (x1 : Int) (x2 : List (Int × Int)) (v19001_1 : Int) : St := ⟨mkT 71 [(1, (.hp 0 0)), (3, (.int .i64 v19001_1))], [(.row [(.int .i64 x1), (.sl 2 (List.map e_i64_i64 x2))])]⟩
def E19_0_0 (x1 : Int) (x2 : List (Int × Int)) : St := ⟨mkT 71 [(1, (.hp 0 0))], [(.row [(.int .i64 x1), (.sl 2 (List.map e_i64_i64 x2))])]⟩
def O19_0 (x1 : Int) (x2 : List (Int × Int)) (y : (Sum (Unit) (Bool))) : GX := match y with
  | .inl y => .st (.exit 0) (E19_0_0 x1 x2)
  | .inr y => .fin (.bool y) []
theorem ok_ref06_Right_l1 (x1 : Int) (x2 : List (Int × Int)) (v19000_1 : Int × Int) (y : (Sum (Int) (Bool))) : ∀ (k : Nat) (v19011_1 : Int) (v19011_2 : Int), ref06_Right_l1 k x1 x2 v19000_1 v19011_1 v19011_2 = some y → LT Try.prog X19 L19_1 (S19_1 x1 x2 v19000_1 v19011_1 v19011_2) (O19_1 x1 x2 v19000_1 y)
  | 0, v19011_1, v19011_2, h => by cases h
  | k + 1, v19011_1, v19011_2, h => by
    rw [ref06_Right_l1] at h
    by_cases cL0 : ltI v19011_2 v19011_1 = true
    · rw [if_pos cL0] at h
      by_cases cL1 : inI v19011_2 x2.length = true
      · rw [if_pos cL1] at h
        obtain ⟨v19010_1, eL2, h⟩ := Option.bind_eq_some_iff.1 h
        by_cases cL3 : eqI v19010_1.1 v19000_1.1 = true
        · rw [if_pos cL3] at h
          obtain rfl := Option.some.inj h
          show LT _ _ _ _ (.fin (.bool false) [])
          exact LT.done mixed (hs := ⟨[], [], false, [], []⟩) (es := none) [.d true, .n x2.length, .row [(.int .i64 v19010_1.1)], .d true] [⟨cL3⟩, ⟨(cells_map (e := e_i64_i64) eL2 2 0 1 (by decide))⟩, ⟨cL1⟩, ⟨(len_map e_i64_i64 x2)⟩, ⟨cL0⟩] (by kernel_rfl) (fun s h => by cases h)
        · rw [if_neg cL3] at h
          replace cL3 := eqf cL3
          exact LT.next mixed (hs := ⟨[(1, []), (3, []), (4, []), (5, [])], [⟨.tmp 1, [], none⟩, ⟨.tmp 4, [], none⟩], false, [], []⟩) (es := none) [.d true, .n x2.length, .row [(.int .i64 v19010_1.1)], .d false] [⟨cL3⟩, ⟨(cells_map (e := e_i64_i64) eL2 2 0 1 (by decide))⟩, ⟨cL1⟩, ⟨(len_map e_i64_i64 x2)⟩, ⟨cL0⟩] (by kernel_rfl) (ok_ref06_Right_l1 x1 x2 v19000_1 y k v19011_1 (iadd .i64 v19011_2 1) h)
      · rw [if_neg cL1] at h
        replace cL1 := eqf cL1
        cases h
    · rw [if_neg cL0] at h
      replace cL0 := eqf cL0
      obtain rfl := Option.some.inj h
      show LT _ _ _ _ (.st (.exit 2) (E19_1_2 x1 x2 v19011_1))
      exact LT.done mixed (hs := ⟨[], [], false, [], []⟩) (es := (some ⟨[(1, []), (3, [])], [⟨.tmp 1, [], none⟩], false, [], []⟩)) [.d false] [⟨cL0⟩] (by kernel_rfl) (fun s h => by cases h)
theorem ok_ref06_Right_l0 (x1 : Int) (x2 : List (Int × Int)) (y : (Sum (Unit) (Bool))) : ∀ (k : Nat) (v19001_1 : Int), ref06_Right_l0 k x1 x2 v19001_1 = some y → LT Try.prog X19 L19_0 (S19_0 x1 x2 v19001_1) (O19_0 x1 x2 y)
  | 0, v19001_1, h => by cases h
  | k + 1, v19001_1, h => by
    rw [ref06_Right_l0] at h
    by_cases cL0 : ltI v19001_1 (nI x2.length) = true
    · rw [if_pos cL0] at h
      by_cases cL1 : inI v19001_1 x2.length = true
      · rw [if_pos cL1] at h
        obtain ⟨v19000_1, eL2, h⟩ := Option.bind_eq_some_iff.1 h
        by_cases cL3 : ltI x1 v19000_1.2 = true
        · rw [if_pos cL3] at h
          by_cases cL4 : ltI 1099511627776 v19000_1.2 = true
          · rw [if_pos cL4] at h
            obtain rfl := Option.some.inj h
            show LT _ _ _ _ (.fin (.bool false) [])
            exact LT.done mixed (hs := ⟨[], [], false, [], []⟩) (es := none) [.n x2.length, .d true, .n x2.length, .row [(.int .i64 v19000_1.1), (.int .i64 v19000_1.2)], .d false, .d false, .d false, .d false, .d true, .d true, .d true, .d true, .d true, .d true] [⟨(rfl : true = true)⟩, ⟨cL4⟩, ⟨cL4⟩, ⟨cL4⟩, ⟨cL4⟩, ⟨cL4⟩, ⟨(nF cL3)⟩, ⟨(nF cL3)⟩, ⟨(nF cL3)⟩, ⟨(nF cL3)⟩, ⟨(cells_map (e := e_i64_i64) eL2 2 0 2 (by decide))⟩, ⟨cL1⟩, ⟨(len_map e_i64_i64 x2)⟩, ⟨cL0⟩, ⟨(len_map e_i64_i64 x2)⟩] (by kernel_rfl) (fun s h => by cases h)
          · rw [if_neg cL4] at h
            replace cL4 := eqf cL4
            by_cases cL5 : ltI 0 v19001_1 = true
            · rw [if_pos cL5] at h
              by_cases cL6 : inI (isub .i64 v19001_1 1) x2.length = true
              · rw [if_pos cL6] at h
                obtain ⟨v19000_2, eL7, h⟩ := Option.bind_eq_some_iff.1 h
                by_cases cL8 : (ref06_ahead v19000_2.1 v19000_2.2 v19000_1.1 v19000_1.2) = true
                · rw [if_pos cL8] at h
                  obtain ⟨v19000_3, eL9, h⟩ := Option.bind_eq_some_iff.1 h
                  cases v19000_3 with
                  | inl v19000_4 =>
                    simp only [Sum.elim_inl] at h
                    exact LT.next mixed (hs := ⟨[(1, []), (3, [])], [⟨.tmp 1, [], none⟩], false, [], []⟩) (es := none) [.n x2.length, .d true, .n x2.length, .row [(.int .i64 v19000_1.1), (.int .i64 v19000_1.2)], .d false, .d false, .d false, .d false, .d false, .d false, .d false, .d true, .d true, .d true, .d true, .d true, .n x2.length, .d true, .row [(.int .i64 v19000_2.1), (.int .i64 v19000_2.2)], .d true, .d true, .call ⟨true, []⟩ (.bool (ref06_ahead v19000_2.1 v19000_2.2 v19000_1.1 v19000_1.2)) [], .d true, .d false, .d true, .d false, .d false, .norm 8 ⟨[(1, []), (3, []), (4, []), (5, [])], [⟨.tmp 1, [], none⟩, ⟨.tmp 4, [], none⟩], false, [], []⟩, .out (.st .normal (E19_1_2 x1 x2 v19000_4))] [⟨(LT.block (ok_ref06_Right_l1 x1 x2 v19000_1 _ k v19001_1 0 eL9))⟩, ⟨(nF cL8)⟩, ⟨cL4⟩, ⟨cL5⟩, ⟨cL4⟩, ⟨cL5⟩, ⟨(ok_ref06_ahead v19000_2.1 v19000_2.2 v19000_1.1 v19000_1.2)⟩, ⟨cL5⟩, ⟨cL5⟩, ⟨(cells_map (e := e_i64_i64) eL7 2 0 2 (by decide))⟩, ⟨cL5⟩, ⟨cL6⟩, ⟨(len_map e_i64_i64 x2)⟩, ⟨cL5⟩, ⟨cL5⟩, ⟨cL5⟩, ⟨cL5⟩, ⟨cL5⟩, ⟨cL4⟩, ⟨cL4⟩, ⟨cL4⟩, ⟨(nF cL3)⟩, ⟨(nF cL3)⟩, ⟨(nF cL3)⟩, ⟨(nF cL3)⟩, ⟨(cells_map (e := e_i64_i64) eL2 2 0 2 (by decide))⟩, ⟨cL1⟩, ⟨(len_map e_i64_i64 x2)⟩, ⟨cL0⟩, ⟨(len_map e_i64_i64 x2)⟩] (by kernel_rfl) (ok_ref06_Right_l0 x1 x2 y k (iadd .i64 v19000_4 1) h)
                  | inr v19000_4 =>
                    simp only [Sum.elim_inr] at h
                    obtain rfl := Option.some.inj h
                    show LT _ _ _ _ (.fin (.bool v19000_4) [])
                    exact LT.done mixed (hs := ⟨[], [], false, [], []⟩) (es := none) [.n x2.length, .d true, .n x2.length, .row [(.int .i64 v19000_1.1), (.int .i64 v19000_1.2)], .d false, .d false, .d false, .d false, .d false, .d false, .d false, .d true, .d true, .d true, .d true, .d true, .n x2.length, .d true, .row [(.int .i64 v19000_2.1), (.int .i64 v19000_2.2)], .d true, .d true, .call ⟨true, []⟩ (.bool (ref06_ahead v19000_2.1 v19000_2.2 v19000_1.1 v19000_1.2)) [], .d true, .d false, .d true, .d false, .d false, .norm 8 ⟨[(1, []), (3, []), (4, []), (5, [])], [⟨.tmp 1, [], none⟩, ⟨.tmp 4, [], none⟩], false, [], []⟩, .out (.fin (.bool v19000_4) [])] [⟨(LT.blockFin (id := 2) (ok_ref06_Right_l1 x1 x2 v19000_1 _ k v19001_1 0 eL9))⟩, ⟨(nF cL8)⟩, ⟨cL4⟩, ⟨cL5⟩, ⟨cL4⟩, ⟨cL5⟩, ⟨(ok_ref06_ahead v19000_2.1 v19000_2.2 v19000_1.1 v19000_1.2)⟩, ⟨cL5⟩, ⟨cL5⟩, ⟨(cells_map (e := e_i64_i64) eL7 2 0 2 (by decide))⟩, ⟨cL5⟩, ⟨cL6⟩, ⟨(len_map e_i64_i64 x2)⟩, ⟨cL5⟩, ⟨cL5⟩, ⟨cL5⟩, ⟨cL5⟩, ⟨cL5⟩, ⟨cL4⟩, ⟨cL4⟩, ⟨cL4⟩, ⟨(nF cL3)⟩, ⟨(nF cL3)⟩, ⟨(nF cL3)⟩, ⟨(nF cL3)⟩, ⟨(cells_map (e := e_i64_i64) eL2 2 0 2 (by decide))⟩, ⟨cL1⟩, ⟨(len_map e_i64_i64 x2)⟩, ⟨cL0⟩, ⟨(len_map e_i64_i64 x2)⟩] (by kernel_rfl) (fun s h => by cases h)
                · rw [if_neg cL8] at h
                  replace cL8 := eqf cL8
                  obtain rfl := Option.some.inj h
                  show LT _ _ _ _ (.fin (.bool false) [])
                  exact LT.done mixed (hs := ⟨[], [], false, [], []⟩) (es := none) [.n x2.length, .d true, .n x2.length, .row [(.int .i64 v19000_1.1), (.int .i64 v19000_1.2)], .d false, .d false, .d false, .d false, .d false, .d false, .d false, .d true, .d true, .d true, .d true, .d true, .n x2.length, .d true, .row [(.int .i64 v19000_2.1), (.int .i64 v19000_2.2)], .d true, .d true, .call ⟨true, []⟩ (.bool (ref06_ahead v19000_2.1 v19000_2.2 v19000_1.1 v19000_1.2)) [], .d true, .d false, .d true, .d false, .d true] [⟨(nT cL8)⟩, ⟨cL4⟩, ⟨cL5⟩, ⟨cL4⟩, ⟨cL5⟩, ⟨(ok_ref06_ahead v19000_2.1 v19000_2.2 v19000_1.1 v19000_1.2)⟩, ⟨cL5⟩, ⟨cL5⟩, ⟨(cells_map (e := e_i64_i64) eL7 2 0 2 (by decide))⟩, ⟨cL5⟩, ⟨cL6⟩, ⟨(len_map e_i64_i64 x2)⟩, ⟨cL5⟩, ⟨cL5⟩, ⟨cL5⟩, ⟨cL5⟩, ⟨cL5⟩, ⟨cL4⟩, ⟨cL4⟩, ⟨cL4⟩, ⟨(nF cL3)⟩, ⟨(nF cL3)⟩, ⟨(nF cL3)⟩, ⟨(nF cL3)⟩, ⟨(cells_map (e := e_i64_i64) eL2 2 0 2 (by decide))⟩, ⟨cL1⟩, ⟨(len_map e_i64_i64 x2)⟩, ⟨cL0⟩, ⟨(len_map e_i64_i64 x2)⟩] (by kernel_rfl) (fun s h => by cases h)
              · rw [if_neg cL6] at h
                replace cL6 := eqf cL6
                cases h
            · rw [if_neg cL5] at h
              replace cL5 := eqf cL5
              obtain ⟨v19000_2, eL6, h⟩ := Option.bind_eq_some_iff.1 h
              cases v19000_2 with
              | inl v19000_3 =>
                simp only [Sum.elim_inl] at h
                exact LT.next mixed (hs := ⟨[(1, []), (3, [])], [⟨.tmp 1, [], none⟩], false, [], []⟩) (es := none) [.n x2.length, .d true, .n x2.length, .row [(.int .i64 v19000_1.1), (.int .i64 v19000_1.2)], .d false, .d false, .d false, .d false, .d false, .d false, .d false, .d false, .d false, .d false, .d false, .d false, .d false, .d false, .d false, .d false, .d false, .d false, .d false, .d false, .norm 8 ⟨[(1, []), (3, []), (4, []), (5, [])], [⟨.tmp 1, [], none⟩, ⟨.tmp 4, [], none⟩], false, [], []⟩, .out (.st .normal (E19_1_2 x1 x2 v19000_3))] [⟨(LT.block (ok_ref06_Right_l1 x1 x2 v19000_1 _ k v19001_1 0 eL6))⟩, ⟨(rfl : false = false)⟩, ⟨cL4⟩, ⟨cL5⟩, ⟨cL4⟩, ⟨cL5⟩, ⟨cL5⟩, ⟨cL5⟩, ⟨cL5⟩, ⟨cL5⟩, ⟨cL5⟩, ⟨cL5⟩, ⟨cL5⟩, ⟨cL5⟩, ⟨cL4⟩, ⟨cL4⟩, ⟨cL4⟩, ⟨(nF cL3)⟩, ⟨(nF cL3)⟩, ⟨(nF cL3)⟩, ⟨(nF cL3)⟩, ⟨(cells_map (e := e_i64_i64) eL2 2 0 2 (by decide))⟩, ⟨cL1⟩, ⟨(len_map e_i64_i64 x2)⟩, ⟨cL0⟩, ⟨(len_map e_i64_i64 x2)⟩] (by kernel_rfl) (ok_ref06_Right_l0 x1 x2 y k (iadd .i64 v19000_3 1) h)
              | inr v19000_3 =>
                simp only [Sum.elim_inr] at h
                obtain rfl := Option.some.inj h
                show LT _ _ _ _ (.fin (.bool v19000_3) [])
                exact LT.done mixed (hs := ⟨[], [], false, [], []⟩) (es := none) [.n x2.length, .d true, .n x2.length, .row [(.int .i64 v19000_1.1), (.int .i64 v19000_1.2)], .d false, .d false, .d false, .d false, .d false, .d false, .d false, .d false, .d false, .d false, .d false, .d false, .d false, .d false, .d false, .d false, .d false, .d false, .d false, .d false, .norm 8 ⟨[(1, []), (3, []), (4, []), (5, [])], [⟨.tmp 1, [], none⟩, ⟨.tmp 4, [], none⟩], false, [], []⟩, .out (.fin (.bool v19000_3) [])] [⟨(LT.blockFin (id := 2) (ok_ref06_Right_l1 x1 x2 v19000_1 _ k v19001_1 0 eL6))⟩, ⟨(rfl : false = false)⟩, ⟨cL4⟩, ⟨cL5⟩, ⟨cL4⟩, ⟨cL5⟩, ⟨cL5⟩, ⟨cL5⟩, ⟨cL5⟩, ⟨cL5⟩, ⟨cL5⟩, ⟨cL5⟩, ⟨cL5⟩, ⟨cL5⟩, ⟨cL4⟩, ⟨cL4⟩, ⟨cL4⟩, ⟨(nF cL3)⟩, ⟨(nF cL3)⟩, ⟨(nF cL3)⟩, ⟨(nF cL3)⟩, ⟨(cells_map (e := e_i64_i64) eL2 2 0 2 (by decide))⟩, ⟨cL1⟩, ⟨(len_map e_i64_i64 x2)⟩, ⟨cL0⟩, ⟨(len_map e_i64_i64 x2)⟩] (by kernel_rfl) (fun s h => by cases h)
        · rw [if_neg cL3] at h
          replace cL3 := eqf cL3
          obtain rfl := Option.some.inj h
          show LT _ _ _ _ (.fin (.bool false) [])
          exact LT.done mixed (hs := ⟨[], [], false, [], []⟩) (es := none) [.n x2.length, .d true, .n x2.length, .row [(.int .i64 v19000_1.1), (.int .i64 v19000_1.2)], .d true, .d true, .d true, .d true, .d true, .d true, .d true, .d true, .d true, .d true] [⟨(rfl : true = true)⟩, ⟨(rfl : true = true)⟩, ⟨(rfl : true = true)⟩, ⟨(rfl : true = true)⟩, ⟨(rfl : true = true)⟩, ⟨(rfl : true = true)⟩, ⟨(nT cL3)⟩, ⟨(nT cL3)⟩, ⟨(nT cL3)⟩, ⟨(nT cL3)⟩, ⟨(cells_map (e := e_i64_i64) eL2 2 0 2 (by decide))⟩, ⟨cL1⟩, ⟨(len_map e_i64_i64 x2)⟩, ⟨cL0⟩, ⟨(len_map e_i64_i64 x2)⟩] (by kernel_rfl) (fun s h => by cases h)
      · rw [if_neg cL1] at h
        replace cL1 := eqf cL1
        cases h
    · rw [if_neg cL0] at h
      replace cL0 := eqf cL0
      obtain rfl := Option.some.inj h
      show LT _ _ _ _ (.st (.exit 0) (E19_0_0 x1 x2))
      exact LT.done mixed (hs := ⟨[], [], false, [], []⟩) (es := (some ⟨[(1, [])], [⟨.tmp 1, [], none⟩], false, [], []⟩)) [.n x2.length, .d false] [⟨cL0⟩, ⟨(len_map e_i64_i64 x2)⟩] (by kernel_rfl) (fun s h => by cases h)
theorem ok_ref06_Right (k : Nat) (x1 : Int) (x2 : List (Int × Int)) (r : Bool) (h : ref06_Right k x1 x2 = some r) : Tri Try.prog 19 [(.agg [(.int .i64 x1), (.sl 2 (List.map e_i64_i64 x2))])] [] (.bool r) [] := by
    unfold ref06_Right at h
    obtain ⟨x3, e0, h⟩ := Option.bind_eq_some_iff.1 h
    cases x3 with
    | inl x4 =>
      simp only [Sum.elim_inl] at h
      by_cases c2 : ltI x1 0 = true
      · rw [if_pos c2] at h
        obtain rfl := Option.some.inj h
        exact Tri.of (x := X19) mixed facts19 [.norm 2 ⟨[(1, []), (3, [])], [⟨.tmp 1, [], none⟩], false, [], []⟩, .out (.st .normal (E19_0_0 x1 x2)), .d false, .d false, .d false, .d false, .d false, .d false, .d false, .d false, .d false] [⟨(rfl : false = false)⟩, ⟨(rfl : false = false)⟩, ⟨(rfl : false = false)⟩, ⟨(rfl : false = false)⟩, ⟨(rfl : false = false)⟩, ⟨(nF c2)⟩, ⟨(nF c2)⟩, ⟨(nF c2)⟩, ⟨(nF c2)⟩, ⟨(LT.block (ok_ref06_Right_l0 x1 x2 _ k 0 e0))⟩] (by kernel_rfl)
      · rw [if_neg c2] at h
        replace c2 := eqf c2
        by_cases c3 : ltI 1099511627776 x1 = true
        · rw [if_pos c3] at h
          obtain rfl := Option.some.inj h
          exact Tri.of (x := X19) mixed facts19 [.norm 2 ⟨[(1, []), (3, [])], [⟨.tmp 1, [], none⟩], false, [], []⟩, .out (.st .normal (E19_0_0 x1 x2)), .d true, .d true, .d true, .d true, .d false, .d false, .d false, .d false, .d false] [⟨(nF c3)⟩, ⟨(nF c3)⟩, ⟨(nF c3)⟩, ⟨(nF c3)⟩, ⟨(nF c3)⟩, ⟨(nT c2)⟩, ⟨(nT c2)⟩, ⟨(nT c2)⟩, ⟨(nT c2)⟩, ⟨(LT.block (ok_ref06_Right_l0 x1 x2 _ k 0 e0))⟩] (by kernel_rfl)
        · rw [if_neg c3] at h
          replace c3 := eqf c3
          obtain rfl := Option.some.inj h
          exact Tri.of (x := X19) mixed facts19 [.norm 2 ⟨[(1, []), (3, [])], [⟨.tmp 1, [], none⟩], false, [], []⟩, .out (.st .normal (E19_0_0 x1 x2)), .d true, .d true, .d true, .d true, .d true, .d true, .d true, .n x2.length, .d true, .d true] [⟨(nT c3)⟩, ⟨(nT c3)⟩, ⟨(len_map e_i64_i64 x2)⟩, ⟨(nT c3)⟩, ⟨(nT c3)⟩, ⟨(nT c3)⟩, ⟨(nT c2)⟩, ⟨(nT c2)⟩, ⟨(nT c2)⟩, ⟨(nT c2)⟩, ⟨(LT.block (ok_ref06_Right_l0 x1 x2 _ k 0 e0))⟩] (by kernel_rfl)
    | inr x4 =>
      simp only [Sum.elim_inr] at h
      obtain rfl := Option.some.inj h
      exact Tri.of (x := X19) mixed facts19 [.norm 2 ⟨[(1, []), (3, [])], [⟨.tmp 1, [], none⟩], false, [], []⟩, .out (.fin (.bool x4) [])] [⟨(LT.blockFin (id := 0) (ok_ref06_Right_l0 x1 x2 _ k 0 e0))⟩] (by kernel_rfl)
end Go.Ws

namespace Go.Ws
open Go.Proofs
set_option linter.unusedSimpArgs false
set_option linter.unusedVariables false
set_option maxRecDepth 1000000
set_option maxHeartbeats 4000000
noncomputable def X39 : Ctx := ⟨Try.f39, [], true⟩
theorem ok_cmp_isNaN (x1 : Int) : Tri Try.prog 39 [(.int .i64 x1)] [] (.bool (cmp_isNaN x1)) [] := by
    obtain ⟨r, h⟩ : ∃ r, cmp_isNaN x1 = r := ⟨_, rfl⟩
    try rw [h]
    unfold cmp_isNaN at h
    obtain rfl := h
    exact Tri.of (x := X39) mixed facts39 [] [] (by kernel_rfl)
end Go.Ws

namespace Go.Ws
open Go.Proofs
set_option linter.unusedSimpArgs false
set_option linter.unusedVariables false
set_option maxRecDepth 1000000
set_option maxHeartbeats 4000000
noncomputable def X35 : Ctx := ⟨Try.f35, [], true⟩
theorem ok_cmp_Compare (x1 : Int) (x2 : Int) : Tri Try.prog 35 [(.int .i64 x1), (.int .i64 x2)] [] (.int .i64 (cmp_Compare x1 x2)) [] := by
    obtain ⟨r, h⟩ : ∃ r, cmp_Compare x1 x2 = r := ⟨_, rfl⟩
    try rw [h]
    unfold cmp_Compare at h
    by_cases c0 : (cmp_isNaN x1) = true
    · rw [if_pos c0] at h
      by_cases c1 : (cmp_isNaN x2) = true
      · rw [if_pos c1] at h
        obtain rfl := h
        exact Tri.of (x := X35) mixed facts35 [.call ⟨true, []⟩ (.bool (cmp_isNaN x1)) [], .call ⟨true, []⟩ (.bool (cmp_isNaN x2)) [], .d true, .d true] [⟨c1⟩, ⟨c0⟩, ⟨(ok_cmp_isNaN x2)⟩, ⟨(ok_cmp_isNaN x1)⟩] (by kernel_rfl)
      · rw [if_neg c1] at h
        replace c1 := eqf c1
        obtain rfl := h
        exact Tri.of (x := X35) mixed facts35 [.call ⟨true, []⟩ (.bool (cmp_isNaN x1)) [], .call ⟨true, []⟩ (.bool (cmp_isNaN x2)) [], .d true, .d false] [⟨c1⟩, ⟨c0⟩, ⟨(ok_cmp_isNaN x2)⟩, ⟨(ok_cmp_isNaN x1)⟩] (by kernel_rfl)
    · rw [if_neg c0] at h
      replace c0 := eqf c0
      by_cases c1 : (cmp_isNaN x2) = true
      · rw [if_pos c1] at h
        obtain rfl := h
        exact Tri.of (x := X35) mixed facts35 [.call ⟨true, []⟩ (.bool (cmp_isNaN x1)) [], .call ⟨true, []⟩ (.bool (cmp_isNaN x2)) [], .d false, .d true] [⟨c1⟩, ⟨c0⟩, ⟨(ok_cmp_isNaN x2)⟩, ⟨(ok_cmp_isNaN x1)⟩] (by kernel_rfl)
      · rw [if_neg c1] at h
        replace c1 := eqf c1
        by_cases c2 : ltI x1 x2 = true
        · rw [if_pos c2] at h
          obtain rfl := h
          exact Tri.of (x := X35) mixed facts35 [.call ⟨true, []⟩ (.bool (cmp_isNaN x1)) [], .call ⟨true, []⟩ (.bool (cmp_isNaN x2)) [], .d false, .d false, .d true] [⟨c2⟩, ⟨c1⟩, ⟨c0⟩, ⟨(ok_cmp_isNaN x2)⟩, ⟨(ok_cmp_isNaN x1)⟩] (by kernel_rfl)
        · rw [if_neg c2] at h
          replace c2 := eqf c2
          by_cases c3 : ltI x2 x1 = true
          · rw [if_pos c3] at h
            obtain rfl := h
            exact Tri.of (x := X35) mixed facts35 [.call ⟨true, []⟩ (.bool (cmp_isNaN x1)) [], .call ⟨true, []⟩ (.bool (cmp_isNaN x2)) [], .d false, .d false, .d false, .d true] [⟨c3⟩, ⟨c2⟩, ⟨c1⟩, ⟨c0⟩, ⟨(ok_cmp_isNaN x2)⟩, ⟨(ok_cmp_isNaN x1)⟩] (by kernel_rfl)
          · rw [if_neg c3] at h
            replace c3 := eqf c3
            obtain rfl := h
            exact Tri.of (x := X35) mixed facts35 [.call ⟨true, []⟩ (.bool (cmp_isNaN x1)) [], .call ⟨true, []⟩ (.bool (cmp_isNaN x2)) [], .d false, .d false, .d false, .d false] [⟨c3⟩, ⟨c2⟩, ⟨c1⟩, ⟨c0⟩, ⟨(ok_cmp_isNaN x2)⟩, ⟨(ok_cmp_isNaN x1)⟩] (by kernel_rfl)
end Go.Ws

namespace Go.Ws
open Go.Proofs
set_option linter.unusedSimpArgs false
set_option linter.unusedVariables false
set_option maxRecDepth 1000000
set_option maxHeartbeats 4000000
noncomputable def X40 : Ctx := ⟨Try.f40, [], true⟩
theorem ok_cmp_isNaN_40 (x1 : Int) : Tri Try.prog 40 [(.int .i64 x1)] [] (.bool (cmp_isNaN_40 x1)) [] := by
    obtain ⟨r, h⟩ : ∃ r, cmp_isNaN_40 x1 = r := ⟨_, rfl⟩
    try rw [h]
    unfold cmp_isNaN_40 at h
    obtain rfl := h
    exact Tri.of (x := X40) mixed facts40 [] [] (by kernel_rfl)
end Go.Ws

namespace Go.Ws
open Go.Proofs
set_option linter.unusedSimpArgs false
set_option linter.unusedVariables false
set_option maxRecDepth 1000000
set_option maxHeartbeats 4000000
noncomputable def X36 : Ctx := ⟨Try.f36, [], true⟩
theorem ok_cmp_Compare_36 (x1 : Int) (x2 : Int) : Tri Try.prog 36 [(.int .i64 x1), (.int .i64 x2)] [] (.int .i64 (cmp_Compare_36 x1 x2)) [] := by
    obtain ⟨r, h⟩ : ∃ r, cmp_Compare_36 x1 x2 = r := ⟨_, rfl⟩
    try rw [h]
    unfold cmp_Compare_36 at h
    by_cases c0 : (cmp_isNaN_40 x1) = true
    · rw [if_pos c0] at h
      by_cases c1 : (cmp_isNaN_40 x2) = true
      · rw [if_pos c1] at h
        obtain rfl := h
        exact Tri.of (x := X36) mixed facts36 [.call ⟨true, []⟩ (.bool (cmp_isNaN_40 x1)) [], .call ⟨true, []⟩ (.bool (cmp_isNaN_40 x2)) [], .d true, .d true] [⟨c1⟩, ⟨c0⟩, ⟨(ok_cmp_isNaN_40 x2)⟩, ⟨(ok_cmp_isNaN_40 x1)⟩] (by kernel_rfl)
      · rw [if_neg c1] at h
        replace c1 := eqf c1
        obtain rfl := h
        exact Tri.of (x := X36) mixed facts36 [.call ⟨true, []⟩ (.bool (cmp_isNaN_40 x1)) [], .call ⟨true, []⟩ (.bool (cmp_isNaN_40 x2)) [], .d true, .d false] [⟨c1⟩, ⟨c0⟩, ⟨(ok_cmp_isNaN_40 x2)⟩, ⟨(ok_cmp_isNaN_40 x1)⟩] (by kernel_rfl)
    · rw [if_neg c0] at h
      replace c0 := eqf c0
      by_cases c1 : (cmp_isNaN_40 x2) = true
      · rw [if_pos c1] at h
        obtain rfl := h
        exact Tri.of (x := X36) mixed facts36 [.call ⟨true, []⟩ (.bool (cmp_isNaN_40 x1)) [], .call ⟨true, []⟩ (.bool (cmp_isNaN_40 x2)) [], .d false, .d true] [⟨c1⟩, ⟨c0⟩, ⟨(ok_cmp_isNaN_40 x2)⟩, ⟨(ok_cmp_isNaN_40 x1)⟩] (by kernel_rfl)
      · rw [if_neg c1] at h
        replace c1 := eqf c1
        by_cases c2 : ltI x1 x2 = true
        · rw [if_pos c2] at h
          obtain rfl := h
          exact Tri.of (x := X36) mixed facts36 [.call ⟨true, []⟩ (.bool (cmp_isNaN_40 x1)) [], .call ⟨true, []⟩ (.bool (cmp_isNaN_40 x2)) [], .d false, .d false, .d true] [⟨c2⟩, ⟨c1⟩, ⟨c0⟩, ⟨(ok_cmp_isNaN_40 x2)⟩, ⟨(ok_cmp_isNaN_40 x1)⟩] (by kernel_rfl)
        · rw [if_neg c2] at h
          replace c2 := eqf c2
          by_cases c3 : ltI x2 x1 = true
          · rw [if_pos c3] at h
            obtain rfl := h
            exact Tri.of (x := X36) mixed facts36 [.call ⟨true, []⟩ (.bool (cmp_isNaN_40 x1)) [], .call ⟨true, []⟩ (.bool (cmp_isNaN_40 x2)) [], .d false, .d false, .d false, .d true] [⟨c3⟩, ⟨c2⟩, ⟨c1⟩, ⟨c0⟩, ⟨(ok_cmp_isNaN_40 x2)⟩, ⟨(ok_cmp_isNaN_40 x1)⟩] (by kernel_rfl)
          · rw [if_neg c3] at h
            replace c3 := eqf c3
            obtain rfl := h
            exact Tri.of (x := X36) mixed facts36 [.call ⟨true, []⟩ (.bool (cmp_isNaN_40 x1)) [], .call ⟨true, []⟩ (.bool (cmp_isNaN_40 x2)) [], .d false, .d false, .d false, .d false] [⟨c3⟩, ⟨c2⟩, ⟨c1⟩, ⟨c0⟩, ⟨(ok_cmp_isNaN_40 x2)⟩, ⟨(ok_cmp_isNaN_40 x1)⟩] (by kernel_rfl)
end Go.Ws

namespace Go.Ws
open Go.Proofs
set_option linter.unusedSimpArgs false
set_option linter.unusedVariables false
set_option maxRecDepth 1000000
set_option maxHeartbeats 4000000
noncomputable def X34 : Ctx := ⟨Try.f34, [], true⟩
noncomputable def L34_0 : Code := at_ Try.f34 [1, 1, 0, 1, 4, 5]
def S34_0 (x1 : List Int) (v34001_1 : Int) : St := ⟨mkT 18 [(3, (.int .i64 0)), (6, (.sl 1 (List.map e_i64 x1))), (7, (.int .i64 (nI x1.length))), (8, (.int .i64 v34001_1))], []⟩
def E34_0_0 : St := ⟨mkT 18 [(3, (.int .i64 0))], []⟩
def O34_0 (x1 : List Int) (y : (Sum (Unit) (Int))) : GX := match y with
  | .inl y => .st (.exit 0) (E34_0_0)
  | .inr y => .fin (.int .i64 y) []
theorem ok_cmp_Or_l0 (x1 : List Int) (y : (Sum (Unit) (Int))) : ∀ (k : Nat) (v34001_1 : Int), cmp_Or_l0 k x1 v34001_1 = some y → LT Try.prog X34 L34_0 (S34_0 x1 v34001_1) (O34_0 x1 y)
  | 0, v34001_1, h => by cases h
  | k + 1, v34001_1, h => by
    rw [cmp_Or_l0] at h
    by_cases cL0 : ltI v34001_1 (nI x1.length) = true
    · rw [if_pos cL0] at h
      by_cases cL1 : inI v34001_1 x1.length = true
      · rw [if_pos cL1] at h
        obtain ⟨v34000_1, eL2, h⟩ := Option.bind_eq_some_iff.1 h
        by_cases cL3 : eqI v34000_1 0 = true
        · rw [if_pos cL3] at h
          exact LT.next mixed (hs := ⟨[(3, []), (6, []), (7, []), (8, [])], [], false, [], []⟩) (es := none) [.d true, .n x1.length, .row [(.int .i64 v34000_1)], .d false] [⟨(nF cL3)⟩, ⟨(cells_map (e := e_i64) eL2 1 0 1 (by decide))⟩, ⟨cL1⟩, ⟨(len_map e_i64 x1)⟩, ⟨cL0⟩] (by kernel_rfl) (ok_cmp_Or_l0 x1 y k (iadd .i64 v34001_1 1) h)
        · rw [if_neg cL3] at h
          replace cL3 := eqf cL3
          obtain rfl := Option.some.inj h
          show LT _ _ _ _ (.fin (.int .i64 v34000_1) [])
          exact LT.done mixed (hs := ⟨[], [], false, [], []⟩) (es := none) [.d true, .n x1.length, .row [(.int .i64 v34000_1)], .d true] [⟨(nT cL3)⟩, ⟨(cells_map (e := e_i64) eL2 1 0 1 (by decide))⟩, ⟨cL1⟩, ⟨(len_map e_i64 x1)⟩, ⟨cL0⟩] (by kernel_rfl) (fun s h => by cases h)
      · rw [if_neg cL1] at h
        replace cL1 := eqf cL1
        cases h
    · rw [if_neg cL0] at h
      replace cL0 := eqf cL0
      obtain rfl := Option.some.inj h
      show LT _ _ _ _ (.st (.exit 0) (E34_0_0))
      exact LT.done mixed (hs := ⟨[], [], false, [], []⟩) (es := (some ⟨[(3, [])], [], false, [], []⟩)) [.d false] [⟨cL0⟩] (by kernel_rfl) (fun s h => by cases h)
theorem ok_cmp_Or (k : Nat) (x1 : List Int) (r : Int) (h : cmp_Or k x1 = some r) : Tri Try.prog 34 [(.sl 1 (List.map e_i64 x1))] [] (.int .i64 r) [] := by
    unfold cmp_Or at h
    obtain ⟨x2, e0, h⟩ := Option.bind_eq_some_iff.1 h
    cases x2 with
    | inl x3 =>
      simp only [Sum.elim_inl] at h
      obtain rfl := Option.some.inj h
      exact Tri.of (x := X34) mixed facts34 [.n x1.length, .norm 2 ⟨[(3, []), (6, []), (7, []), (8, [])], [], false, [], []⟩, .out (.st .normal (E34_0_0))] [⟨(LT.block (ok_cmp_Or_l0 x1 _ k 0 e0))⟩, ⟨(len_map e_i64 x1)⟩] (by kernel_rfl)
    | inr x3 =>
      simp only [Sum.elim_inr] at h
      obtain rfl := Option.some.inj h
      exact Tri.of (x := X34) mixed facts34 [.n x1.length, .norm 2 ⟨[(3, []), (6, []), (7, []), (8, [])], [], false, [], []⟩, .out (.fin (.int .i64 x3) [])] [⟨(LT.blockFin (id := 0) (ok_cmp_Or_l0 x1 _ k 0 e0))⟩, ⟨(len_map e_i64 x1)⟩] (by kernel_rfl)
end Go.Ws

namespace Go.Ws
open Go.Proofs
set_option linter.unusedSimpArgs false
set_option linter.unusedVariables false
set_option maxRecDepth 1000000
set_option maxHeartbeats 4000000
noncomputable def X27 : Ctx := ⟨Try.f27, [], true⟩
theorem ok_wheel_order (k : Nat) (x1 : Int) (x2 : Int) (x3 : Int) (x4 : Int) (r : Int) (h : wheel_order k x1 x2 x3 x4 = some r) : Tri Try.prog 27 [(.agg [(.int .i64 x1), (.int .i64 x2)]), (.agg [(.int .i64 x3), (.int .i64 x4)])] [] (.int .i64 r) [] := by
    unfold wheel_order at h
    obtain ⟨x5, e0, h⟩ := Option.bind_eq_some_iff.1 h
    obtain rfl := Option.some.inj h
    exact Tri.of (x := X27) mixed facts27 [.call ⟨true, []⟩ (.int .i64 (cmp_Compare x2 x4)) [], .call ⟨true, []⟩ (.int .i64 (cmp_Compare_36 x1 x3)) [], .call ⟨true, []⟩ (.int .i64 x5) [], .rows (List.map e_i64 [(cmp_Compare x2 x4), (cmp_Compare_36 x1 x3)])] [⟨(ok_cmp_Or k [(cmp_Compare x2 x4), (cmp_Compare_36 x1 x3)] _ e0)⟩, ⟨(part_all e_i64 (l := [(cmp_Compare x2 x4), (cmp_Compare_36 x1 x3)]) (n := 2) rfl)⟩, ⟨(le_map e_i64 (Nat.le_refl 2) : 0 + 2 ≤ (List.map e_i64 [(cmp_Compare x2 x4), (cmp_Compare_36 x1 x3)]).length)⟩, ⟨(ok_cmp_Compare_36 x1 x3)⟩, ⟨(ok_cmp_Compare x2 x4)⟩] (by kernel_rfl)
end Go.Ws

namespace Go.Ws
open Go.Proofs
set_option linter.unusedSimpArgs false
set_option linter.unusedVariables false
set_option maxRecDepth 1000000
set_option maxHeartbeats 4000000
noncomputable def X20 : Ctx := ⟨Try.f20, [], true⟩
noncomputable def L20_0 : Code := at_ Try.f20 [1, 1, 1, 0, 1, 4, 5]
def S20_0 (x1 : Int) (x2 : List (Int × Int)) (v20001_1 : Int) (v20001_2 : List (Int × Unit)) : St := ⟨mkT 71 [(1, (.hp 0 0)), (3, (.mp 1)), (24, (.sl 2 (List.map e_i64_i64 x2))), (25, (.int .i64 (nI x2.length))), (26, (.int .i64 v20001_1))], [(.row [(.int .i64 x1), (.sl 2 (List.map e_i64_i64 x2))]), (.map (encM .i64 (fun y => AV.agg (e_unit y)) v20001_2) v20001_2.length)]⟩
def E20_0_0 : St := ⟨mkT 71 [], []⟩
def O20_0 (x1 : Int) (x2 : List (Int × Int)) (y : (Sum (Unit) (Bool))) : GX := match y with
  | .inl y => .st (.exit 0) (E20_0_0)
  | .inr y => .fin (.bool y) []
theorem ok_wheel_Right_l0 (x1 : Int) (x2 : List (Int × Int)) (y : (Sum (Unit) (Bool))) : ∀ (k : Nat) (v20001_1 : Int) (v20001_2 : List (Int × Unit)), wheel_Right_l0 k x1 x2 v20001_1 v20001_2 = some y → LT Try.prog X20 L20_0 (S20_0 x1 x2 v20001_1 v20001_2) (O20_0 x1 x2 y)
  | 0, v20001_1, v20001_2, h => by cases h
  | k + 1, v20001_1, v20001_2, h => by
    rw [wheel_Right_l0] at h
    by_cases cL0 : ltI v20001_1 (nI x2.length) = true
    · rw [if_pos cL0] at h
      by_cases cL1 : inI v20001_1 x2.length = true
      · rw [if_pos cL1] at h
        obtain ⟨v20000_1, eL2, h⟩ := Option.bind_eq_some_iff.1 h
        by_cases cL3 : mHas v20001_2 v20000_1.1 = true
        · rw [if_pos cL3] at h
          obtain ⟨v20000_2, eL4, h⟩ := Option.bind_eq_some_iff.1 h
          obtain rfl := Option.some.inj h
          show LT _ _ _ _ (.fin (.bool false) [])
          exact LT.done mixed (hs := ⟨[], [], false, [], []⟩) (es := none) [.d true, .n x2.length, .row [(.int .i64 v20000_1.1), (.int .i64 v20000_1.2)], .opt (some (.agg [])), .d true, .d true, .d true, .d true, .d true, .d true, .d true, .d true, .d true, .d true, .d true, .d true, .d true, .d true, .d true, .d true] [⟨(rfl : true = true)⟩, ⟨(rfl : true = true)⟩, ⟨(rfl : true = true)⟩, ⟨(rfl : true = true)⟩, ⟨(rfl : true = true)⟩, ⟨(rfl : true = true)⟩, ⟨(rfl : true = true)⟩, ⟨(rfl : true = true)⟩, ⟨(rfl : true = true)⟩, ⟨(rfl : true = true)⟩, ⟨(rfl : true = true)⟩, ⟨(rfl : true = true)⟩, ⟨(rfl : true = true)⟩, ⟨(rfl : true = true)⟩, ⟨(rfl : true = true)⟩, ⟨(rfl : true = true)⟩, ⟨(look_some .i64 (fun y => AV.agg (e_unit y)) eL4)⟩, ⟨(cells_map (e := e_i64_i64) eL2 2 0 2 (by decide))⟩, ⟨cL1⟩, ⟨(len_map e_i64_i64 x2)⟩, ⟨cL0⟩] (by kernel_rfl) (fun s h => by cases h)
        · rw [if_neg cL3] at h
          replace cL3 := eqf cL3
          by_cases cL4 : ltI x1 v20000_1.2 = true
          · rw [if_pos cL4] at h
            by_cases cL5 : ltI 1099511627776 v20000_1.2 = true
            · rw [if_pos cL5] at h
              obtain rfl := Option.some.inj h
              show LT _ _ _ _ (.fin (.bool false) [])
              exact LT.done mixed (hs := ⟨[], [], false, [], []⟩) (es := none) [.d true, .n x2.length, .row [(.int .i64 v20000_1.1), (.int .i64 v20000_1.2)], .opt none, .d false, .d false, .d false, .d false, .d false, .d false, .d false, .d false, .d false, .d false, .d true, .d true, .d true, .d true, .d true, .d true] [⟨(rfl : true = true)⟩, ⟨cL5⟩, ⟨cL5⟩, ⟨cL5⟩, ⟨cL5⟩, ⟨cL5⟩, ⟨(nF cL4)⟩, ⟨(nF cL4)⟩, ⟨(nF cL4)⟩, ⟨(nF cL4)⟩, ⟨(rfl : false = false)⟩, ⟨(rfl : false = false)⟩, ⟨(rfl : false = false)⟩, ⟨(rfl : false = false)⟩, ⟨(rfl : false = false)⟩, ⟨(rfl : false = false)⟩, ⟨(look_none .i64 (fun y => AV.agg (e_unit y)) cL3)⟩, ⟨(cells_map (e := e_i64_i64) eL2 2 0 2 (by decide))⟩, ⟨cL1⟩, ⟨(len_map e_i64_i64 x2)⟩, ⟨cL0⟩] (by kernel_rfl) (fun s h => by cases h)
            · rw [if_neg cL5] at h
              replace cL5 := eqf cL5
              by_cases cL6 : ltI 0 v20001_1 = true
              · rw [if_pos cL6] at h
                by_cases cL7 : inI (isub .i64 v20001_1 1) x2.length = true
                · rw [if_pos cL7] at h
                  obtain ⟨v20000_2, eL8, h⟩ := Option.bind_eq_some_iff.1 h
                  obtain ⟨v20000_3, eL9, h⟩ := Option.bind_eq_some_iff.1 h
                  by_cases cL10 : ltI v20000_3 0 = true
                  · rw [if_pos cL10] at h
                    exact LT.next mixed (hs := ⟨[(1, []), (3, []), (24, []), (25, []), (26, [])], [⟨.tmp 1, [], none⟩, ⟨.tmp 3, [], none⟩], false, [], []⟩) (es := none) [.d true, .n x2.length, .row [(.int .i64 v20000_1.1), (.int .i64 v20000_1.2)], .opt none, .d false, .d false, .d false, .d false, .d false, .d false, .d false, .d false, .d false, .d false, .d false, .d false, .d false, .d true, .d true, .d true, .d true, .d true, .n x2.length, .d true, .row [(.int .i64 v20000_2.1), (.int .i64 v20000_2.2)], .d true, .d true, .call ⟨true, []⟩ (.int .i64 v20000_3) [], .d true, .d false, .d true, .d false, .d false, .ents (encM .i64 (fun y => AV.agg (e_unit y)) (mPut v20001_2 v20000_1.1 ())) (mPut v20001_2 v20000_1.1 ()).length] [⟨(put_enc .i64 (fun y => AV.agg (e_unit y)) v20001_2 v20000_1.1 ())⟩, ⟨(nF cL10)⟩, ⟨cL5⟩, ⟨cL6⟩, ⟨cL5⟩, ⟨cL6⟩, ⟨(ok_wheel_order k v20000_2.1 v20000_2.2 v20000_1.1 v20000_1.2 _ eL9)⟩, ⟨cL6⟩, ⟨cL6⟩, ⟨(cells_map (e := e_i64_i64) eL8 2 0 2 (by decide))⟩, ⟨cL6⟩, ⟨cL7⟩, ⟨(len_map e_i64_i64 x2)⟩, ⟨cL6⟩, ⟨cL6⟩, ⟨cL6⟩, ⟨cL6⟩, ⟨cL6⟩, ⟨cL5⟩, ⟨cL5⟩, ⟨cL5⟩, ⟨(nF cL4)⟩, ⟨(nF cL4)⟩, ⟨(nF cL4)⟩, ⟨(nF cL4)⟩, ⟨(rfl : false = false)⟩, ⟨(rfl : false = false)⟩, ⟨(rfl : false = false)⟩, ⟨(rfl : false = false)⟩, ⟨(rfl : false = false)⟩, ⟨(rfl : false = false)⟩, ⟨(look_none .i64 (fun y => AV.agg (e_unit y)) cL3)⟩, ⟨(cells_map (e := e_i64_i64) eL2 2 0 2 (by decide))⟩, ⟨cL1⟩, ⟨(len_map e_i64_i64 x2)⟩, ⟨cL0⟩] (by kernel_rfl) (ok_wheel_Right_l0 x1 x2 y k (iadd .i64 v20001_1 1) (mPut v20001_2 v20000_1.1 ()) h)
                  · rw [if_neg cL10] at h
                    replace cL10 := eqf cL10
                    obtain rfl := Option.some.inj h
                    show LT _ _ _ _ (.fin (.bool false) [])
                    exact LT.done mixed (hs := ⟨[], [], false, [], []⟩) (es := none) [.d true, .n x2.length, .row [(.int .i64 v20000_1.1), (.int .i64 v20000_1.2)], .opt none, .d false, .d false, .d false, .d false, .d false, .d false, .d false, .d false, .d false, .d false, .d false, .d false, .d false, .d true, .d true, .d true, .d true, .d true, .n x2.length, .d true, .row [(.int .i64 v20000_2.1), (.int .i64 v20000_2.2)], .d true, .d true, .call ⟨true, []⟩ (.int .i64 v20000_3) [], .d true, .d false, .d true, .d false, .d true] [⟨(nT cL10)⟩, ⟨cL5⟩, ⟨cL6⟩, ⟨cL5⟩, ⟨cL6⟩, ⟨(ok_wheel_order k v20000_2.1 v20000_2.2 v20000_1.1 v20000_1.2 _ eL9)⟩, ⟨cL6⟩, ⟨cL6⟩, ⟨(cells_map (e := e_i64_i64) eL8 2 0 2 (by decide))⟩, ⟨cL6⟩, ⟨cL7⟩, ⟨(len_map e_i64_i64 x2)⟩, ⟨cL6⟩, ⟨cL6⟩, ⟨cL6⟩, ⟨cL6⟩, ⟨cL6⟩, ⟨cL5⟩, ⟨cL5⟩, ⟨cL5⟩, ⟨(nF cL4)⟩, ⟨(nF cL4)⟩, ⟨(nF cL4)⟩, ⟨(nF cL4)⟩, ⟨(rfl : false = false)⟩, ⟨(rfl : false = false)⟩, ⟨(rfl : false = false)⟩, ⟨(rfl : false = false)⟩, ⟨(rfl : false = false)⟩, ⟨(rfl : false = false)⟩, ⟨(look_none .i64 (fun y => AV.agg (e_unit y)) cL3)⟩, ⟨(cells_map (e := e_i64_i64) eL2 2 0 2 (by decide))⟩, ⟨cL1⟩, ⟨(len_map e_i64_i64 x2)⟩, ⟨cL0⟩] (by kernel_rfl) (fun s h => by cases h)
                · rw [if_neg cL7] at h
                  replace cL7 := eqf cL7
                  cases h
              · rw [if_neg cL6] at h
                replace cL6 := eqf cL6
                exact LT.next mixed (hs := ⟨[(1, []), (3, []), (24, []), (25, []), (26, [])], [⟨.tmp 1, [], none⟩, ⟨.tmp 3, [], none⟩], false, [], []⟩) (es := none) [.d true, .n x2.length, .row [(.int .i64 v20000_1.1), (.int .i64 v20000_1.2)], .opt none, .d false, .d false, .d false, .d false, .d false, .d false, .d false, .d false, .d false, .d false, .d false, .d false, .d false, .d false, .d false, .d false, .d false, .d false, .d false, .d false, .d false, .d false, .d false, .d false, .d false, .d false, .ents (encM .i64 (fun y => AV.agg (e_unit y)) (mPut v20001_2 v20000_1.1 ())) (mPut v20001_2 v20000_1.1 ()).length] [⟨(put_enc .i64 (fun y => AV.agg (e_unit y)) v20001_2 v20000_1.1 ())⟩, ⟨(rfl : false = false)⟩, ⟨cL5⟩, ⟨cL6⟩, ⟨cL5⟩, ⟨cL6⟩, ⟨cL6⟩, ⟨cL6⟩, ⟨cL6⟩, ⟨cL6⟩, ⟨cL6⟩, ⟨cL6⟩, ⟨cL6⟩, ⟨cL6⟩, ⟨cL5⟩, ⟨cL5⟩, ⟨cL5⟩, ⟨(nF cL4)⟩, ⟨(nF cL4)⟩, ⟨(nF cL4)⟩, ⟨(nF cL4)⟩, ⟨(rfl : false = false)⟩, ⟨(rfl : false = false)⟩, ⟨(rfl : false = false)⟩, ⟨(rfl : false = false)⟩, ⟨(rfl : false = false)⟩, ⟨(rfl : false = false)⟩, ⟨(look_none .i64 (fun y => AV.agg (e_unit y)) cL3)⟩, ⟨(cells_map (e := e_i64_i64) eL2 2 0 2 (by decide))⟩, ⟨cL1⟩, ⟨(len_map e_i64_i64 x2)⟩, ⟨cL0⟩] (by kernel_rfl) (ok_wheel_Right_l0 x1 x2 y k (iadd .i64 v20001_1 1) (mPut v20001_2 v20000_1.1 ()) h)
          · rw [if_neg cL4] at h
            replace cL4 := eqf cL4
            obtain rfl := Option.some.inj h
            show LT _ _ _ _ (.fin (.bool false) [])
            exact LT.done mixed (hs := ⟨[], [], false, [], []⟩) (es := none) [.d true, .n x2.length, .row [(.int .i64 v20000_1.1), (.int .i64 v20000_1.2)], .opt none, .d false, .d false, .d false, .d false, .d false, .d false, .d true, .d true, .d true, .d true, .d true, .d true, .d true, .d true, .d true, .d true] [⟨(rfl : true = true)⟩, ⟨(rfl : true = true)⟩, ⟨(rfl : true = true)⟩, ⟨(rfl : true = true)⟩, ⟨(rfl : true = true)⟩, ⟨(rfl : true = true)⟩, ⟨(nT cL4)⟩, ⟨(nT cL4)⟩, ⟨(nT cL4)⟩, ⟨(nT cL4)⟩, ⟨(rfl : false = false)⟩, ⟨(rfl : false = false)⟩, ⟨(rfl : false = false)⟩, ⟨(rfl : false = false)⟩, ⟨(rfl : false = false)⟩, ⟨(rfl : false = false)⟩, ⟨(look_none .i64 (fun y => AV.agg (e_unit y)) cL3)⟩, ⟨(cells_map (e := e_i64_i64) eL2 2 0 2 (by decide))⟩, ⟨cL1⟩, ⟨(len_map e_i64_i64 x2)⟩, ⟨cL0⟩] (by kernel_rfl) (fun s h => by cases h)
      · rw [if_neg cL1] at h
        replace cL1 := eqf cL1
        cases h
    · rw [if_neg cL0] at h
      replace cL0 := eqf cL0
      obtain rfl := Option.some.inj h
      show LT _ _ _ _ (.st (.exit 0) (E20_0_0))
      exact LT.done mixed (hs := ⟨[], [], false, [], []⟩) (es := (some ⟨[], [], false, [], []⟩)) [.d false] [⟨cL0⟩] (by kernel_rfl) (fun s h => by cases h)
theorem ok_wheel_Right (k : Nat) (x1 : Int) (x2 : List (Int × Int)) (r : Bool) (h : wheel_Right k x1 x2 = some r) : Tri Try.prog 20 [(.agg [(.int .i64 x1), (.sl 2 (List.map e_i64_i64 x2))])] [] (.bool r) [] := by
    unfold wheel_Right at h
    by_cases c0 : ltI x1 0 = true
    · rw [if_pos c0] at h
      obtain rfl := Option.some.inj h
      exact Tri.of (x := X20) mixed facts20 [.d true, .d true, .d true, .d true, .d true, .d true, .d true, .d true, .d true, .d true] [⟨(rfl : true = true)⟩, ⟨(rfl : true = true)⟩, ⟨(rfl : true = true)⟩, ⟨(rfl : true = true)⟩, ⟨(rfl : true = true)⟩, ⟨(rfl : true = true)⟩, ⟨c0⟩, ⟨c0⟩, ⟨c0⟩, ⟨c0⟩] (by kernel_rfl)
    · rw [if_neg c0] at h
      replace c0 := eqf c0
      by_cases c1 : ltI 1099511627776 x1 = true
      · rw [if_pos c1] at h
        obtain rfl := Option.some.inj h
        exact Tri.of (x := X20) mixed facts20 [.d false, .d false, .d false, .d false, .d true, .d true, .d true, .d true, .d true, .d true] [⟨(rfl : true = true)⟩, ⟨c1⟩, ⟨c1⟩, ⟨c1⟩, ⟨c1⟩, ⟨c1⟩, ⟨c0⟩, ⟨c0⟩, ⟨c0⟩, ⟨c0⟩] (by kernel_rfl)
      · rw [if_neg c1] at h
        replace c1 := eqf c1
        by_cases c2 : ltI 1000 (nI x2.length) = true
        · rw [if_pos c2] at h
          obtain rfl := Option.some.inj h
          exact Tri.of (x := X20) mixed facts20 [.d false, .d false, .d false, .d false, .d false, .d false, .d false, .n x2.length, .d false, .d false, .d true] [⟨c2⟩, ⟨c1⟩, ⟨c1⟩, ⟨(len_map e_i64_i64 x2)⟩, ⟨c1⟩, ⟨c1⟩, ⟨c1⟩, ⟨c0⟩, ⟨c0⟩, ⟨c0⟩, ⟨c0⟩] (by kernel_rfl)
        · rw [if_neg c2] at h
          replace c2 := eqf c2
          obtain ⟨x3, e3, h⟩ := Option.bind_eq_some_iff.1 h
          cases x3 with
          | inl x4 =>
            simp only [Sum.elim_inl] at h
            obtain rfl := Option.some.inj h
            exact Tri.of (x := X20) mixed facts20 [.d false, .d false, .d false, .d false, .d false, .d false, .d false, .n x2.length, .d false, .d false, .d false, .n x2.length, .norm 2 ⟨[(1, []), (3, []), (24, []), (25, []), (26, [])], [⟨.tmp 1, [], none⟩, ⟨.tmp 3, [], none⟩], false, [], []⟩, .out (.st .normal (E20_0_0))] [⟨(LT.block (ok_wheel_Right_l0 x1 x2 _ k 0 [] e3))⟩, ⟨(len_map e_i64_i64 x2)⟩, ⟨c2⟩, ⟨c1⟩, ⟨c1⟩, ⟨(len_map e_i64_i64 x2)⟩, ⟨c1⟩, ⟨c1⟩, ⟨c1⟩, ⟨c0⟩, ⟨c0⟩, ⟨c0⟩, ⟨c0⟩] (by kernel_rfl)
          | inr x4 =>
            simp only [Sum.elim_inr] at h
            obtain rfl := Option.some.inj h
            exact Tri.of (x := X20) mixed facts20 [.d false, .d false, .d false, .d false, .d false, .d false, .d false, .n x2.length, .d false, .d false, .d false, .n x2.length, .norm 2 ⟨[(1, []), (3, []), (24, []), (25, []), (26, [])], [⟨.tmp 1, [], none⟩, ⟨.tmp 3, [], none⟩], false, [], []⟩, .out (.fin (.bool x4) [])] [⟨(LT.blockFin (id := 0) (ok_wheel_Right_l0 x1 x2 _ k 0 [] e3))⟩, ⟨(len_map e_i64_i64 x2)⟩, ⟨c2⟩, ⟨c1⟩, ⟨c1⟩, ⟨(len_map e_i64_i64 x2)⟩, ⟨c1⟩, ⟨c1⟩, ⟨c1⟩, ⟨c0⟩, ⟨c0⟩, ⟨c0⟩, ⟨c0⟩] (by kernel_rfl)
end Go.Ws

namespace Go.Ws
open Go.Proofs
set_option linter.unusedSimpArgs false
set_option linter.unusedVariables false
set_option maxRecDepth 1000000
set_option maxHeartbeats 4000000
noncomputable def X29 : Ctx := ⟨Try.f29, [], true⟩
noncomputable def L29_0 : Code := at_ Try.f29 [1, 1, 1, 0, 1, 4, 5]
def S29_0 (x1 : List (Int × Int)) (x2 : Int) (v29001_1 : Bool) (v29001_2 : Int) (v29001_3 : List (Int × Int)) : St := ⟨mkT 31 [(0, (.sl 2 (List.map e_i64_i64 x1))), (1, (.int .i64 x2)), (6, (.ref 2 0 0 0 v29001_3.length .virt)), (7, (.bool v29001_1)), (8, (.int .i64 v29001_2))], [(.arr 2 (List.map e_i64_i64 v29001_3) 0 0 false)]⟩
def E29_0_0 (v29002_1 : Bool) (v29002_2 : List (Int × Int)) : St := ⟨mkT 31 [(6, (.ref 2 0 0 0 v29002_2.length .virt)), (7, (.bool v29002_1))], [(.arr 2 (List.map e_i64_i64 v29002_2) 0 0 false)]⟩
def O29_0 (x1 : List (Int × Int)) (x2 : Int) (y : (Bool × (List (Int × Int)))) : GX := .st (.exit 0) (E29_0_0 y.1 y.2)
theorem ok_ref06_without_l0 (x1 : List (Int × Int)) (x2 : Int) (y : (Bool × (List (Int × Int)))) : ∀ (k : Nat) (v29001_1 : Bool) (v29001_2 : Int) (v29001_3 : List (Int × Int)), ref06_without_l0 k x1 x2 v29001_1 v29001_2 v29001_3 = some y → LT Try.prog X29 L29_0 (S29_0 x1 x2 v29001_1 v29001_2 v29001_3) (O29_0 x1 x2 y)
  | 0, v29001_1, v29001_2, v29001_3, h => by cases h
  | k + 1, v29001_1, v29001_2, v29001_3, h => by
    rw [ref06_without_l0] at h
    by_cases cL0 : ltI v29001_2 (nI x1.length) = true
    · rw [if_pos cL0] at h
      by_cases cL1 : inI v29001_2 x1.length = true
      · rw [if_pos cL1] at h
        obtain ⟨v29000_1, eL2, h⟩ := Option.bind_eq_some_iff.1 h
        by_cases cL3 : eqI v29000_1.1 x2 = true
        · rw [if_pos cL3] at h
          exact LT.next mixed (hs := ⟨[(0, []), (1, []), (6, []), (7, []), (8, [])], [⟨.tmp 6, [], some 2⟩], false, [], []⟩) (es := none) [.n x1.length, .d true, .n x1.length, .row [(.int .i64 v29000_1.1)], .d true, .n v29001_3.length, .rows (List.map e_i64_i64 v29001_3)] [⟨(take_all e_i64_i64 (l := v29001_3) (n := v29001_3.length) rfl)⟩, ⟨(rfl : v29001_3.length = v29001_3.length)⟩, ⟨(zle v29001_3.length)⟩, ⟨cL3⟩, ⟨(cells_map (e := e_i64_i64) eL2 2 0 1 (by decide))⟩, ⟨cL1⟩, ⟨(len_map e_i64_i64 x1)⟩, ⟨cL0⟩, ⟨(len_map e_i64_i64 x1)⟩] (by kernel_rfl) (ok_ref06_without_l0 x1 x2 y k true (iadd .i64 v29001_2 1) v29001_3 h)
        · rw [if_neg cL3] at h
          replace cL3 := eqf cL3
          by_cases cL4 : roomI (((v29001_3 ++ [v29000_1]).length) * 16) = true
          · rw [if_pos cL4] at h
            exact LT.next mixed (hs := ⟨[(0, []), (1, []), (6, []), (7, []), (8, [])], [⟨.tmp 6, [], some 2⟩], false, [], []⟩) (es := none) [.n x1.length, .d true, .n x1.length, .row [(.int .i64 v29000_1.1)], .d false, .n x1.length, .row [(.int .i64 v29000_1.1), (.int .i64 v29000_1.2)], .rows (List.map e_i64_i64 [v29000_1]), .n ((v29001_3 ++ [v29000_1]).length), .n v29001_3.length, .d true, .rows (List.map e_i64_i64 (v29001_3 ++ [v29000_1])), .n ((v29001_3 ++ [v29000_1]).length), .rows (List.map e_i64_i64 (v29001_3 ++ [v29000_1]))] [⟨(take_all e_i64_i64 (l := (v29001_3 ++ [v29000_1])) (n := ((v29001_3 ++ [v29000_1]).length)) rfl)⟩, ⟨(rfl : (v29001_3 ++ [v29000_1]).length = (v29001_3 ++ [v29000_1]).length)⟩, ⟨(zle ((v29001_3 ++ [v29000_1]).length))⟩, ⟨(app_map e_i64_i64 v29001_3 [v29000_1])⟩, ⟨(eqN_self v29001_3.length)⟩, ⟨(len_map e_i64_i64 v29001_3)⟩, ⟨cL4⟩, ⟨(by simp only [List.length_append, List.length_cons, List.length_nil, List.length_take, List.length_drop, List.length_set, List.length_replicate, List.length_map, List.map_nil, List.map_cons] <;> omega : v29001_3.length + (List.map e_i64_i64 [v29000_1]).length = (v29001_3 ++ [v29000_1]).length)⟩, ⟨(part_all e_i64_i64 (l := [v29000_1]) (n := 1) rfl)⟩, ⟨(le_map e_i64_i64 (Nat.le_refl 1) : 0 + 1 ≤ (List.map e_i64_i64 [v29000_1]).length)⟩, ⟨(cells_map (e := e_i64_i64) eL2 2 0 2 (by decide))⟩, ⟨cL1⟩, ⟨(len_map e_i64_i64 x1)⟩, ⟨cL3⟩, ⟨(cells_map (e := e_i64_i64) eL2 2 0 1 (by decide))⟩, ⟨cL1⟩, ⟨(len_map e_i64_i64 x1)⟩, ⟨cL0⟩, ⟨(len_map e_i64_i64 x1)⟩] (by kernel_rfl) (ok_ref06_without_l0 x1 x2 y k v29001_1 (iadd .i64 v29001_2 1) (v29001_3 ++ [v29000_1]) h)
          · rw [if_neg cL4] at h
            replace cL4 := eqf cL4
            cases h
      · rw [if_neg cL1] at h
        replace cL1 := eqf cL1
        cases h
    · rw [if_neg cL0] at h
      replace cL0 := eqf cL0
      obtain rfl := Option.some.inj h
      show LT _ _ _ _ (.st (.exit 0) (E29_0_0 v29001_1 v29001_3))
      exact LT.done mixed (hs := ⟨[], [], false, [], []⟩) (es := (some ⟨[(6, []), (7, [])], [⟨.tmp 6, [], none⟩], false, [], []⟩)) [.n x1.length, .d false] [⟨cL0⟩, ⟨(len_map e_i64_i64 x1)⟩] (by kernel_rfl) (fun s h => by cases h)
theorem ok_ref06_without (k : Nat) (x1 : List (Int × Int)) (x2 : Int) (r : (List (Int × Int)) × Bool) (h : ref06_without k x1 x2 = some r) : Tri Try.prog 29 [(.sl 2 (List.map e_i64_i64 x1)), (.int .i64 x2)] [] (.tup [(.sl 2 (List.map e_i64_i64 r.1)), (.bool r.2)]) [] := by
    unfold ref06_without at h
    obtain ⟨x4, e0, h⟩ := Option.bind_eq_some_iff.1 h
    obtain rfl := Option.some.inj h
    exact Tri.of (x := X29) mixed facts29 [.norm 2 ⟨[(0, []), (1, []), (6, []), (7, []), (8, [])], [⟨.tmp 6, [], some 2⟩], false, [], []⟩, .n 0, .rows (List.map e_i64_i64 []), .out (.st .normal (E29_0_0 x4.1 x4.2)), .rows (List.map e_i64_i64 x4.2)] [⟨(part_all e_i64_i64 (l := x4.2) (n := x4.2.length) rfl)⟩, ⟨(le_map e_i64_i64 (Nat.le_refl x4.2.length) : 0 + x4.2.length ≤ (List.map e_i64_i64 x4.2).length)⟩, ⟨(LT.block (ok_ref06_without_l0 x1 x2 _ k false 0 [] e0))⟩, ⟨(take_all e_i64_i64 (l := []) (n := 0) rfl)⟩, ⟨(rfl : 0 = 0)⟩, ⟨(zle 0)⟩] (by kernel_rfl)
end Go.Ws

namespace Go.Ws
open Go.Proofs
set_option linter.unusedSimpArgs false
set_option linter.unusedVariables false
set_option maxRecDepth 1000000
set_option maxHeartbeats 4000000
noncomputable def X13 : Ctx := ⟨Try.f13, [], true⟩
noncomputable def L13_0 : Code := at_ Try.f13 [1, 1, 1, 1, 1, 1, 0, 1, 4, 5]
def S13_0 (x1 : Int) (x2 : List (Int × Int)) (x3 : Int) (x4 : Int) (x5 : (List (Int × Int)) × Bool) (v13001_1 : Bool) (v13001_2 : Int) (v13001_3 : List (Int × Int)) : St := ⟨mkT 84 [(3, (.hp 0 0)), (6, (.hp 1 0)), (8, (.sl 2 (List.map e_i64_i64 x5.1))), (10, (.hp 2 0)), (11, (.ref 2 3 0 0 v13001_3.length .virt)), (12, (.bool v13001_1)), (13, (.int .i64 v13001_2))], [(.row [(.int .i64 x1), (.sl 2 (List.map e_i64_i64 x2))]), (.row [(.int .i64 0), .nils]), (.row [(.int .i64 x3), (.int .i64 x4)]), (.arr 2 (List.map e_i64_i64 v13001_3) 0 0 false)]⟩
def E13_0_1 (x1 : Int) (x2 : List (Int × Int)) (x3 : Int) (x4 : Int) (v13002_1 : Bool) (v13002_2 : List (Int × Int)) : St := ⟨mkT 84 [(3, (.hp 0 0)), (6, (.hp 1 0)), (10, (.hp 2 0)), (11, (.ref 2 3 0 0 v13002_2.length .virt)), (12, (.bool v13002_1))], [(.row [(.int .i64 x1), (.sl 2 (List.map e_i64_i64 x2))]), (.row [(.int .i64 0), .nils]), (.row [(.int .i64 x3), (.int .i64 x4)]), (.arr 2 (List.map e_i64_i64 v13002_2) 0 0 false)]⟩
def O13_0 (x1 : Int) (x2 : List (Int × Int)) (x3 : Int) (x4 : Int) (x5 : (List (Int × Int)) × Bool) (y : (Bool × (List (Int × Int)))) : GX := .st (.exit 1) (E13_0_1 x1 x2 x3 x4 y.1 y.2)
theorem ok_ref06_Set_l0 (x1 : Int) (x2 : List (Int × Int)) (x3 : Int) (x4 : Int) (x5 : (List (Int × Int)) × Bool) (y : (Bool × (List (Int × Int)))) : ∀ (k : Nat) (v13001_1 : Bool) (v13001_2 : Int) (v13001_3 : List (Int × Int)), ref06_Set_l0 k x1 x2 x3 x4 x5 v13001_1 v13001_2 v13001_3 = some y → LT Try.prog X13 L13_0 (S13_0 x1 x2 x3 x4 x5 v13001_1 v13001_2 v13001_3) (O13_0 x1 x2 x3 x4 x5 y)
  | 0, v13001_1, v13001_2, v13001_3, h => by cases h
  | k + 1, v13001_1, v13001_2, v13001_3, h => by
    rw [ref06_Set_l0] at h
    by_cases cL0 : ltI v13001_2 (nI x5.1.length) = true
    · rw [if_pos cL0] at h
      by_cases cL1 : v13001_1 = true
      · rw [if_pos cL1] at h
        by_cases cL2 : inI v13001_2 x5.1.length = true
        · rw [if_pos cL2] at h
          obtain ⟨v13000_1, eL3, h⟩ := Option.bind_eq_some_iff.1 h
          by_cases cL4 : roomI (((v13001_3 ++ [v13000_1]).length) * 16) = true
          · rw [if_pos cL4] at h
            exact LT.next mixed (hs := ⟨[(3, []), (6, []), (8, []), (10, []), (11, []), (12, []), (13, [])], [⟨.tmp 3, [], none⟩, ⟨.tmp 6, [], none⟩, ⟨.tmp 10, [], none⟩, ⟨.tmp 11, [], some 2⟩], false, [], []⟩) (es := none) [.n x5.1.length, .d true, .d false, .d false, .d false, .d false, .d false, .d false, .d false, .d false, .n x5.1.length, .row [(.int .i64 v13000_1.1), (.int .i64 v13000_1.2)], .rows (List.map e_i64_i64 [v13000_1]), .n ((v13001_3 ++ [v13000_1]).length), .n v13001_3.length, .d true, .rows (List.map e_i64_i64 (v13001_3 ++ [v13000_1])), .n ((v13001_3 ++ [v13000_1]).length), .rows (List.map e_i64_i64 (v13001_3 ++ [v13000_1]))] [⟨(take_all e_i64_i64 (l := (v13001_3 ++ [v13000_1])) (n := ((v13001_3 ++ [v13000_1]).length)) rfl)⟩, ⟨(rfl : (v13001_3 ++ [v13000_1]).length = (v13001_3 ++ [v13000_1]).length)⟩, ⟨(zle ((v13001_3 ++ [v13000_1]).length))⟩, ⟨(app_map e_i64_i64 v13001_3 [v13000_1])⟩, ⟨(eqN_self v13001_3.length)⟩, ⟨(len_map e_i64_i64 v13001_3)⟩, ⟨cL4⟩, ⟨(by simp only [List.length_append, List.length_cons, List.length_nil, List.length_take, List.length_drop, List.length_set, List.length_replicate, List.length_map, List.map_nil, List.map_cons] <;> omega : v13001_3.length + (List.map e_i64_i64 [v13000_1]).length = (v13001_3 ++ [v13000_1]).length)⟩, ⟨(part_all e_i64_i64 (l := [v13000_1]) (n := 1) rfl)⟩, ⟨(le_map e_i64_i64 (Nat.le_refl 1) : 0 + 1 ≤ (List.map e_i64_i64 [v13000_1]).length)⟩, ⟨(cells_map (e := e_i64_i64) eL3 2 0 2 (by decide))⟩, ⟨cL2⟩, ⟨(len_map e_i64_i64 x5.1)⟩, ⟨(rfl : false = false)⟩, ⟨(nF cL1)⟩, ⟨(nF cL1)⟩, ⟨(nF cL1)⟩, ⟨(nF cL1)⟩, ⟨(nF cL1)⟩, ⟨(nF cL1)⟩, ⟨(nF cL1)⟩, ⟨cL0⟩, ⟨(len_map e_i64_i64 x5.1)⟩] (by kernel_rfl) (ok_ref06_Set_l0 x1 x2 x3 x4 x5 y k v13001_1 (iadd .i64 v13001_2 1) (v13001_3 ++ [v13000_1]) h)
          · rw [if_neg cL4] at h
            replace cL4 := eqf cL4
            cases h
        · rw [if_neg cL2] at h
          replace cL2 := eqf cL2
          cases h
      · rw [if_neg cL1] at h
        replace cL1 := eqf cL1
        by_cases cL2 : inI v13001_2 x5.1.length = true
        · rw [if_pos cL2] at h
          obtain ⟨v13000_1, eL3, h⟩ := Option.bind_eq_some_iff.1 h
          by_cases cL4 : (ref06_ahead x3 x4 v13000_1.1 v13000_1.2) = true
          · rw [if_pos cL4] at h
            by_cases cL5 : roomI (((v13001_3 ++ [(x3, x4)]).length) * 16) = true
            · rw [if_pos cL5] at h
              by_cases cL6 : roomI ((((v13001_3 ++ [(x3, x4)]) ++ [v13000_1]).length) * 16) = true
              · rw [if_pos cL6] at h
                exact LT.next mixed (hs := ⟨[(3, []), (6, []), (8, []), (10, []), (11, []), (12, []), (13, [])], [⟨.tmp 3, [], none⟩, ⟨.tmp 6, [], none⟩, ⟨.tmp 10, [], none⟩, ⟨.tmp 11, [], some 2⟩], false, [], []⟩) (es := none) [.n x5.1.length, .d true, .d true, .d true, .d true, .d true, .n x5.1.length, .d true, .row [(.int .i64 v13000_1.1), (.int .i64 v13000_1.2)], .d true, .call ⟨true, []⟩ (.bool (ref06_ahead x3 x4 v13000_1.1 v13000_1.2)) [], .d true, .d true, .rows (List.map e_i64_i64 [(x3, x4)]), .n ((v13001_3 ++ [(x3, x4)]).length), .n v13001_3.length, .d true, .rows (List.map e_i64_i64 (v13001_3 ++ [(x3, x4)])), .n x5.1.length, .row [(.int .i64 v13000_1.1), (.int .i64 v13000_1.2)], .rows (List.map e_i64_i64 [v13000_1]), .n (((v13001_3 ++ [(x3, x4)]) ++ [v13000_1]).length), .n ((v13001_3 ++ [(x3, x4)]).length), .d true, .rows (List.map e_i64_i64 ((v13001_3 ++ [(x3, x4)]) ++ [v13000_1])), .n (((v13001_3 ++ [(x3, x4)]) ++ [v13000_1]).length), .rows (List.map e_i64_i64 ((v13001_3 ++ [(x3, x4)]) ++ [v13000_1]))] [⟨(take_all e_i64_i64 (l := ((v13001_3 ++ [(x3, x4)]) ++ [v13000_1])) (n := (((v13001_3 ++ [(x3, x4)]) ++ [v13000_1]).length)) rfl)⟩, ⟨(rfl : ((v13001_3 ++ [(x3, x4)]) ++ [v13000_1]).length = ((v13001_3 ++ [(x3, x4)]) ++ [v13000_1]).length)⟩, ⟨(zle (((v13001_3 ++ [(x3, x4)]) ++ [v13000_1]).length))⟩, ⟨(app_map e_i64_i64 (v13001_3 ++ [(x3, x4)]) [v13000_1])⟩, ⟨(eqN_self ((v13001_3 ++ [(x3, x4)]).length))⟩, ⟨(len_map e_i64_i64 (v13001_3 ++ [(x3, x4)]))⟩, ⟨cL6⟩, ⟨(by simp only [List.length_append, List.length_cons, List.length_nil, List.length_take, List.length_drop, List.length_set, List.length_replicate, List.length_map, List.map_nil, List.map_cons] <;> omega : ((v13001_3 ++ [(x3, x4)]).length) + (List.map e_i64_i64 [v13000_1]).length = ((v13001_3 ++ [(x3, x4)]) ++ [v13000_1]).length)⟩, ⟨(part_all e_i64_i64 (l := [v13000_1]) (n := 1) rfl)⟩, ⟨(le_map e_i64_i64 (Nat.le_refl 1) : 0 + 1 ≤ (List.map e_i64_i64 [v13000_1]).length)⟩, ⟨(cells_map (e := e_i64_i64) eL3 2 0 2 (by decide))⟩, ⟨cL2⟩, ⟨(len_map e_i64_i64 x5.1)⟩, ⟨(app_map e_i64_i64 v13001_3 [(x3, x4)])⟩, ⟨(eqN_self v13001_3.length)⟩, ⟨(len_map e_i64_i64 v13001_3)⟩, ⟨cL5⟩, ⟨(by simp only [List.length_append, List.length_cons, List.length_nil, List.length_take, List.length_drop, List.length_set, List.length_replicate, List.length_map, List.map_nil, List.map_cons] <;> omega : v13001_3.length + (List.map e_i64_i64 [(x3, x4)]).length = (v13001_3 ++ [(x3, x4)]).length)⟩, ⟨(part_all e_i64_i64 (l := [(x3, x4)]) (n := 1) rfl)⟩, ⟨(le_map e_i64_i64 (Nat.le_refl 1) : 0 + 1 ≤ (List.map e_i64_i64 [(x3, x4)]).length)⟩, ⟨cL4⟩, ⟨(nT cL1)⟩, ⟨(ok_ref06_ahead x3 x4 v13000_1.1 v13000_1.2)⟩, ⟨(nT cL1)⟩, ⟨(cells_map (e := e_i64_i64) eL3 2 0 2 (by decide))⟩, ⟨(nT cL1)⟩, ⟨cL2⟩, ⟨(len_map e_i64_i64 x5.1)⟩, ⟨(nT cL1)⟩, ⟨(nT cL1)⟩, ⟨(nT cL1)⟩, ⟨(nT cL1)⟩, ⟨cL0⟩, ⟨(len_map e_i64_i64 x5.1)⟩] (by kernel_rfl) (ok_ref06_Set_l0 x1 x2 x3 x4 x5 y k true (iadd .i64 v13001_2 1) ((v13001_3 ++ [(x3, x4)]) ++ [v13000_1]) h)
              · rw [if_neg cL6] at h
                replace cL6 := eqf cL6
                cases h
            · rw [if_neg cL5] at h
              replace cL5 := eqf cL5
              cases h
          · rw [if_neg cL4] at h
            replace cL4 := eqf cL4
            by_cases cL5 : roomI (((v13001_3 ++ [v13000_1]).length) * 16) = true
            · rw [if_pos cL5] at h
              exact LT.next mixed (hs := ⟨[(3, []), (6, []), (8, []), (10, []), (11, []), (12, []), (13, [])], [⟨.tmp 3, [], none⟩, ⟨.tmp 6, [], none⟩, ⟨.tmp 10, [], none⟩, ⟨.tmp 11, [], some 2⟩], false, [], []⟩) (es := none) [.n x5.1.length, .d true, .d true, .d true, .d true, .d true, .n x5.1.length, .d true, .row [(.int .i64 v13000_1.1), (.int .i64 v13000_1.2)], .d true, .call ⟨true, []⟩ (.bool (ref06_ahead x3 x4 v13000_1.1 v13000_1.2)) [], .d true, .d false, .n x5.1.length, .row [(.int .i64 v13000_1.1), (.int .i64 v13000_1.2)], .rows (List.map e_i64_i64 [v13000_1]), .n ((v13001_3 ++ [v13000_1]).length), .n v13001_3.length, .d true, .rows (List.map e_i64_i64 (v13001_3 ++ [v13000_1])), .n ((v13001_3 ++ [v13000_1]).length), .rows (List.map e_i64_i64 (v13001_3 ++ [v13000_1]))] [⟨(take_all e_i64_i64 (l := (v13001_3 ++ [v13000_1])) (n := ((v13001_3 ++ [v13000_1]).length)) rfl)⟩, ⟨(rfl : (v13001_3 ++ [v13000_1]).length = (v13001_3 ++ [v13000_1]).length)⟩, ⟨(zle ((v13001_3 ++ [v13000_1]).length))⟩, ⟨(app_map e_i64_i64 v13001_3 [v13000_1])⟩, ⟨(eqN_self v13001_3.length)⟩, ⟨(len_map e_i64_i64 v13001_3)⟩, ⟨cL5⟩, ⟨(by simp only [List.length_append, List.length_cons, List.length_nil, List.length_take, List.length_drop, List.length_set, List.length_replicate, List.length_map, List.map_nil, List.map_cons] <;> omega : v13001_3.length + (List.map e_i64_i64 [v13000_1]).length = (v13001_3 ++ [v13000_1]).length)⟩, ⟨(part_all e_i64_i64 (l := [v13000_1]) (n := 1) rfl)⟩, ⟨(le_map e_i64_i64 (Nat.le_refl 1) : 0 + 1 ≤ (List.map e_i64_i64 [v13000_1]).length)⟩, ⟨(cells_map (e := e_i64_i64) eL3 2 0 2 (by decide))⟩, ⟨cL2⟩, ⟨(len_map e_i64_i64 x5.1)⟩, ⟨cL4⟩, ⟨(nT cL1)⟩, ⟨(ok_ref06_ahead x3 x4 v13000_1.1 v13000_1.2)⟩, ⟨(nT cL1)⟩, ⟨(cells_map (e := e_i64_i64) eL3 2 0 2 (by decide))⟩, ⟨(nT cL1)⟩, ⟨cL2⟩, ⟨(len_map e_i64_i64 x5.1)⟩, ⟨(nT cL1)⟩, ⟨(nT cL1)⟩, ⟨(nT cL1)⟩, ⟨(nT cL1)⟩, ⟨cL0⟩, ⟨(len_map e_i64_i64 x5.1)⟩] (by kernel_rfl) (ok_ref06_Set_l0 x1 x2 x3 x4 x5 y k v13001_1 (iadd .i64 v13001_2 1) (v13001_3 ++ [v13000_1]) h)
            · rw [if_neg cL5] at h
              replace cL5 := eqf cL5
              cases h
        · rw [if_neg cL2] at h
          replace cL2 := eqf cL2
          cases h
    · rw [if_neg cL0] at h
      replace cL0 := eqf cL0
      obtain rfl := Option.some.inj h
      show LT _ _ _ _ (.st (.exit 1) (E13_0_1 x1 x2 x3 x4 v13001_1 v13001_3))
      exact LT.done mixed (hs := ⟨[], [], false, [], []⟩) (es := (some ⟨[(3, []), (6, []), (10, []), (11, []), (12, [])], [⟨.tmp 3, [], none⟩, ⟨.tmp 6, [], none⟩, ⟨.tmp 10, [], none⟩, ⟨.tmp 11, [], none⟩], false, [], []⟩)) [.n x5.1.length, .d false] [⟨cL0⟩, ⟨(len_map e_i64_i64 x5.1)⟩] (by kernel_rfl) (fun s h => by cases h)
theorem ok_ref06_Set (k : Nat) (x1 : Int) (x2 : List (Int × Int)) (x3 : Int) (x4 : Int) (r : Int × (List (Int × Int)) × Int) (h : ref06_Set k x1 x2 x3 x4 = some r) : Tri Try.prog 13 [(.agg [(.int .i64 x1), (.sl 2 (List.map e_i64_i64 x2))]), (.int .i64 x3), (.int .i64 x4)] [] (.tup [(.agg [(.int .i64 r.1), (.sl 2 (List.map e_i64_i64 r.2.1))]), (.int .i64 r.2.2)]) [] := by
    unfold ref06_Set at h
    obtain ⟨x5, e0, h⟩ := Option.bind_eq_some_iff.1 h
    obtain ⟨x6, e1, h⟩ := Option.bind_eq_some_iff.1 h
    by_cases c2 : x6 = true
    · rw [if_pos c2] at h
      by_cases c3 : ltI x1 x4 = true
      · rw [if_pos c3] at h
        by_cases c4 : ltI 1099511627776 x4 = true
        · rw [if_pos c4] at h
          obtain rfl := Option.some.inj h
          exact Tri.of (x := X13) mixed facts13 [.call ⟨true, []⟩ (.tup [(.sl 2 (List.map e_i64_i64 x5.1)), (.bool x5.2)]) [], .call ⟨true, []⟩ (.bool x6) [], .d false, .d false, .d true] [⟨c4⟩, ⟨(nF c3)⟩, ⟨(nF c2)⟩, ⟨(ok_ref06_Right k x1 x2 _ e1)⟩, ⟨(ok_ref06_without k x2 x3 _ e0)⟩] (by kernel_rfl)
        · rw [if_neg c4] at h
          replace c4 := eqf c4
          by_cases c5 : x5.2 = true
          · rw [if_pos c5] at h
            obtain ⟨x8, e6, h⟩ := Option.bind_eq_some_iff.1 h
            by_cases c8 : x8.1 = true
            · rw [if_pos c8] at h
              obtain rfl := Option.some.inj h
              exact Tri.of (x := X13) mixed facts13 [.call ⟨true, []⟩ (.tup [(.sl 2 (List.map e_i64_i64 x5.1)), (.bool x5.2)]) [], .call ⟨true, []⟩ (.bool x6) [], .d false, .d false, .d false, .d false, .d false, .d false, .d false, .d false, .norm 5 ⟨[(3, []), (6, []), (8, []), (10, []), (11, []), (12, []), (13, [])], [⟨.tmp 3, [], none⟩, ⟨.tmp 6, [], none⟩, ⟨.tmp 10, [], none⟩, ⟨.tmp 11, [], some 2⟩], false, [], []⟩, .n 0, .rows (List.map e_i64_i64 []), .out (.st .normal (E13_0_1 x1 x2 x3 x4 x8.1 x8.2)), .d false, .rows (List.map e_i64_i64 x8.2)] [⟨(part_all e_i64_i64 (l := x8.2) (n := x8.2.length) rfl)⟩, ⟨(le_map e_i64_i64 (Nat.le_refl x8.2.length) : 0 + x8.2.length ≤ (List.map e_i64_i64 x8.2).length)⟩, ⟨(nF c8)⟩, ⟨(LT.block (ok_ref06_Set_l0 x1 x2 x3 x4 x5 _ k false 0 [] e6))⟩, ⟨(take_all e_i64_i64 (l := []) (n := 0) rfl)⟩, ⟨(rfl : 0 = 0)⟩, ⟨(zle 0)⟩, ⟨(rfl : false = false)⟩, ⟨(nF c5)⟩, ⟨(nF c5)⟩, ⟨(nF c5)⟩, ⟨(nF c5)⟩, ⟨c4⟩, ⟨(nF c3)⟩, ⟨(nF c2)⟩, ⟨(ok_ref06_Right k x1 x2 _ e1)⟩, ⟨(ok_ref06_without k x2 x3 _ e0)⟩] (by kernel_rfl)
            · rw [if_neg c8] at h
              replace c8 := eqf c8
              by_cases c9 : roomI (((x8.2 ++ [(x3, x4)]).length) * 16) = true
              · rw [if_pos c9] at h
                obtain rfl := Option.some.inj h
                exact Tri.of (x := X13) mixed facts13 [.call ⟨true, []⟩ (.tup [(.sl 2 (List.map e_i64_i64 x5.1)), (.bool x5.2)]) [], .call ⟨true, []⟩ (.bool x6) [], .d false, .d false, .d false, .d false, .d false, .d false, .d false, .d false, .norm 5 ⟨[(3, []), (6, []), (8, []), (10, []), (11, []), (12, []), (13, [])], [⟨.tmp 3, [], none⟩, ⟨.tmp 6, [], none⟩, ⟨.tmp 10, [], none⟩, ⟨.tmp 11, [], some 2⟩], false, [], []⟩, .n 0, .rows (List.map e_i64_i64 []), .out (.st .normal (E13_0_1 x1 x2 x3 x4 x8.1 x8.2)), .d true, .rows (List.map e_i64_i64 [(x3, x4)]), .n ((x8.2 ++ [(x3, x4)]).length), .n x8.2.length, .d true, .rows (List.map e_i64_i64 (x8.2 ++ [(x3, x4)])), .rows (List.map e_i64_i64 (x8.2 ++ [(x3, x4)]))] [⟨(part_all e_i64_i64 (l := (x8.2 ++ [(x3, x4)])) (n := ((x8.2 ++ [(x3, x4)]).length)) rfl)⟩, ⟨(le_map e_i64_i64 (Nat.le_refl ((x8.2 ++ [(x3, x4)]).length)) : 0 + (x8.2 ++ [(x3, x4)]).length ≤ (List.map e_i64_i64 (x8.2 ++ [(x3, x4)])).length)⟩, ⟨(app_map e_i64_i64 x8.2 [(x3, x4)])⟩, ⟨(eqN_self x8.2.length)⟩, ⟨(len_map e_i64_i64 x8.2)⟩, ⟨c9⟩, ⟨(by simp only [List.length_append, List.length_cons, List.length_nil, List.length_take, List.length_drop, List.length_set, List.length_replicate, List.length_map, List.map_nil, List.map_cons] <;> omega : x8.2.length + (List.map e_i64_i64 [(x3, x4)]).length = (x8.2 ++ [(x3, x4)]).length)⟩, ⟨(part_all e_i64_i64 (l := [(x3, x4)]) (n := 1) rfl)⟩, ⟨(le_map e_i64_i64 (Nat.le_refl 1) : 0 + 1 ≤ (List.map e_i64_i64 [(x3, x4)]).length)⟩, ⟨(nT c8)⟩, ⟨(LT.block (ok_ref06_Set_l0 x1 x2 x3 x4 x5 _ k false 0 [] e6))⟩, ⟨(take_all e_i64_i64 (l := []) (n := 0) rfl)⟩, ⟨(rfl : 0 = 0)⟩, ⟨(zle 0)⟩, ⟨(rfl : false = false)⟩, ⟨(nF c5)⟩, ⟨(nF c5)⟩, ⟨(nF c5)⟩, ⟨(nF c5)⟩, ⟨c4⟩, ⟨(nF c3)⟩, ⟨(nF c2)⟩, ⟨(ok_ref06_Right k x1 x2 _ e1)⟩, ⟨(ok_ref06_without k x2 x3 _ e0)⟩] (by kernel_rfl)
              · rw [if_neg c9] at h
                replace c9 := eqf c9
                cases h
          · rw [if_neg c5] at h
            replace c5 := eqf c5
            by_cases c6 : ltI (nI x5.1.length) 1000 = true
            · rw [if_pos c6] at h
              obtain ⟨x8, e7, h⟩ := Option.bind_eq_some_iff.1 h
              by_cases c9 : x8.1 = true
              · rw [if_pos c9] at h
                obtain rfl := Option.some.inj h
                exact Tri.of (x := X13) mixed facts13 [.call ⟨true, []⟩ (.tup [(.sl 2 (List.map e_i64_i64 x5.1)), (.bool x5.2)]) [], .call ⟨true, []⟩ (.bool x6) [], .d false, .d false, .d false, .d true, .d true, .n x5.1.length, .d true, .d true, .d false, .norm 5 ⟨[(3, []), (6, []), (8, []), (10, []), (11, []), (12, []), (13, [])], [⟨.tmp 3, [], none⟩, ⟨.tmp 6, [], none⟩, ⟨.tmp 10, [], none⟩, ⟨.tmp 11, [], some 2⟩], false, [], []⟩, .n 0, .rows (List.map e_i64_i64 []), .out (.st .normal (E13_0_1 x1 x2 x3 x4 x8.1 x8.2)), .d false, .rows (List.map e_i64_i64 x8.2)] [⟨(part_all e_i64_i64 (l := x8.2) (n := x8.2.length) rfl)⟩, ⟨(le_map e_i64_i64 (Nat.le_refl x8.2.length) : 0 + x8.2.length ≤ (List.map e_i64_i64 x8.2).length)⟩, ⟨(nF c9)⟩, ⟨(LT.block (ok_ref06_Set_l0 x1 x2 x3 x4 x5 _ k false 0 [] e7))⟩, ⟨(take_all e_i64_i64 (l := []) (n := 0) rfl)⟩, ⟨(rfl : 0 = 0)⟩, ⟨(zle 0)⟩, ⟨(nF c6)⟩, ⟨(nT c5)⟩, ⟨(nT c5)⟩, ⟨(len_map e_i64_i64 x5.1)⟩, ⟨(nT c5)⟩, ⟨(nT c5)⟩, ⟨c4⟩, ⟨(nF c3)⟩, ⟨(nF c2)⟩, ⟨(ok_ref06_Right k x1 x2 _ e1)⟩, ⟨(ok_ref06_without k x2 x3 _ e0)⟩] (by kernel_rfl)
              · rw [if_neg c9] at h
                replace c9 := eqf c9
                by_cases c10 : roomI (((x8.2 ++ [(x3, x4)]).length) * 16) = true
                · rw [if_pos c10] at h
                  obtain rfl := Option.some.inj h
                  exact Tri.of (x := X13) mixed facts13 [.call ⟨true, []⟩ (.tup [(.sl 2 (List.map e_i64_i64 x5.1)), (.bool x5.2)]) [], .call ⟨true, []⟩ (.bool x6) [], .d false, .d false, .d false, .d true, .d true, .n x5.1.length, .d true, .d true, .d false, .norm 5 ⟨[(3, []), (6, []), (8, []), (10, []), (11, []), (12, []), (13, [])], [⟨.tmp 3, [], none⟩, ⟨.tmp 6, [], none⟩, ⟨.tmp 10, [], none⟩, ⟨.tmp 11, [], some 2⟩], false, [], []⟩, .n 0, .rows (List.map e_i64_i64 []), .out (.st .normal (E13_0_1 x1 x2 x3 x4 x8.1 x8.2)), .d true, .rows (List.map e_i64_i64 [(x3, x4)]), .n ((x8.2 ++ [(x3, x4)]).length), .n x8.2.length, .d true, .rows (List.map e_i64_i64 (x8.2 ++ [(x3, x4)])), .rows (List.map e_i64_i64 (x8.2 ++ [(x3, x4)]))] [⟨(part_all e_i64_i64 (l := (x8.2 ++ [(x3, x4)])) (n := ((x8.2 ++ [(x3, x4)]).length)) rfl)⟩, ⟨(le_map e_i64_i64 (Nat.le_refl ((x8.2 ++ [(x3, x4)]).length)) : 0 + (x8.2 ++ [(x3, x4)]).length ≤ (List.map e_i64_i64 (x8.2 ++ [(x3, x4)])).length)⟩, ⟨(app_map e_i64_i64 x8.2 [(x3, x4)])⟩, ⟨(eqN_self x8.2.length)⟩, ⟨(len_map e_i64_i64 x8.2)⟩, ⟨c10⟩, ⟨(by simp only [List.length_append, List.length_cons, List.length_nil, List.length_take, List.length_drop, List.length_set, List.length_replicate, List.length_map, List.map_nil, List.map_cons] <;> omega : x8.2.length + (List.map e_i64_i64 [(x3, x4)]).length = (x8.2 ++ [(x3, x4)]).length)⟩, ⟨(part_all e_i64_i64 (l := [(x3, x4)]) (n := 1) rfl)⟩, ⟨(le_map e_i64_i64 (Nat.le_refl 1) : 0 + 1 ≤ (List.map e_i64_i64 [(x3, x4)]).length)⟩, ⟨(nT c9)⟩, ⟨(LT.block (ok_ref06_Set_l0 x1 x2 x3 x4 x5 _ k false 0 [] e7))⟩, ⟨(take_all e_i64_i64 (l := []) (n := 0) rfl)⟩, ⟨(rfl : 0 = 0)⟩, ⟨(zle 0)⟩, ⟨(nF c6)⟩, ⟨(nT c5)⟩, ⟨(nT c5)⟩, ⟨(len_map e_i64_i64 x5.1)⟩, ⟨(nT c5)⟩, ⟨(nT c5)⟩, ⟨c4⟩, ⟨(nF c3)⟩, ⟨(nF c2)⟩, ⟨(ok_ref06_Right k x1 x2 _ e1)⟩, ⟨(ok_ref06_without k x2 x3 _ e0)⟩] (by kernel_rfl)
                · rw [if_neg c10] at h
                  replace c10 := eqf c10
                  cases h
            · rw [if_neg c6] at h
              replace c6 := eqf c6
              obtain rfl := Option.some.inj h
              exact Tri.of (x := X13) mixed facts13 [.call ⟨true, []⟩ (.tup [(.sl 2 (List.map e_i64_i64 x5.1)), (.bool x5.2)]) [], .call ⟨true, []⟩ (.bool x6) [], .d false, .d false, .d false, .d true, .d true, .n x5.1.length, .d true, .d true, .d true] [⟨(nT c6)⟩, ⟨(nT c5)⟩, ⟨(nT c5)⟩, ⟨(len_map e_i64_i64 x5.1)⟩, ⟨(nT c5)⟩, ⟨(nT c5)⟩, ⟨c4⟩, ⟨(nF c3)⟩, ⟨(nF c2)⟩, ⟨(ok_ref06_Right k x1 x2 _ e1)⟩, ⟨(ok_ref06_without k x2 x3 _ e0)⟩] (by kernel_rfl)
      · rw [if_neg c3] at h
        replace c3 := eqf c3
        obtain rfl := Option.some.inj h
        exact Tri.of (x := X13) mixed facts13 [.call ⟨true, []⟩ (.tup [(.sl 2 (List.map e_i64_i64 x5.1)), (.bool x5.2)]) [], .call ⟨true, []⟩ (.bool x6) [], .d false, .d true] [⟨(nT c3)⟩, ⟨(nF c2)⟩, ⟨(ok_ref06_Right k x1 x2 _ e1)⟩, ⟨(ok_ref06_without k x2 x3 _ e0)⟩] (by kernel_rfl)
    · rw [if_neg c2] at h
      replace c2 := eqf c2
      obtain rfl := Option.some.inj h
      exact Tri.of (x := X13) mixed facts13 [.call ⟨true, []⟩ (.tup [(.sl 2 (List.map e_i64_i64 x5.1)), (.bool x5.2)]) [], .call ⟨true, []⟩ (.bool x6) [], .d true] [⟨(nT c2)⟩, ⟨(ok_ref06_Right k x1 x2 _ e1)⟩, ⟨(ok_ref06_without k x2 x3 _ e0)⟩] (by kernel_rfl)
end Go.Ws

namespace Go.Ws
open Go.Proofs
set_option linter.unusedSimpArgs false
set_option linter.unusedVariables false
set_option maxRecDepth 1000000
set_option maxHeartbeats 4000000
noncomputable def X15 : Ctx := ⟨Try.f15, [], true⟩
theorem ok_ref06_Stop (k : Nat) (x1 : Int) (x2 : List (Int × Int)) (x3 : Int) (r : Int × (List (Int × Int)) × Int) (h : ref06_Stop k x1 x2 x3 = some r) : Tri Try.prog 15 [(.agg [(.int .i64 x1), (.sl 2 (List.map e_i64_i64 x2))]), (.int .i64 x3)] [] (.tup [(.agg [(.int .i64 r.1), (.sl 2 (List.map e_i64_i64 r.2.1))]), (.int .i64 r.2.2)]) [] := by
    unfold ref06_Stop at h
    obtain ⟨x4, e0, h⟩ := Option.bind_eq_some_iff.1 h
    by_cases c1 : x4 = true
    · rw [if_pos c1] at h
      obtain ⟨x5, e2, h⟩ := Option.bind_eq_some_iff.1 h
      by_cases c3 : x5.2 = true
      · rw [if_pos c3] at h
        obtain rfl := Option.some.inj h
        exact Tri.of (x := X15) mixed facts15 [.call ⟨true, []⟩ (.bool x4) [], .d false, .call ⟨true, []⟩ (.tup [(.sl 2 (List.map e_i64_i64 x5.1)), (.bool x5.2)]) [], .d false] [⟨(nF c3)⟩, ⟨(ok_ref06_without k x2 x3 _ e2)⟩, ⟨(nF c1)⟩, ⟨(ok_ref06_Right k x1 x2 _ e0)⟩] (by kernel_rfl)
      · rw [if_neg c3] at h
        replace c3 := eqf c3
        obtain rfl := Option.some.inj h
        exact Tri.of (x := X15) mixed facts15 [.call ⟨true, []⟩ (.bool x4) [], .d false, .call ⟨true, []⟩ (.tup [(.sl 2 (List.map e_i64_i64 x5.1)), (.bool x5.2)]) [], .d true] [⟨(nT c3)⟩, ⟨(ok_ref06_without k x2 x3 _ e2)⟩, ⟨(nF c1)⟩, ⟨(ok_ref06_Right k x1 x2 _ e0)⟩] (by kernel_rfl)
    · rw [if_neg c1] at h
      replace c1 := eqf c1
      obtain rfl := Option.some.inj h
      exact Tri.of (x := X15) mixed facts15 [.call ⟨true, []⟩ (.bool x4) [], .d true] [⟨(nT c1)⟩, ⟨(ok_ref06_Right k x1 x2 _ e0)⟩] (by kernel_rfl)
end Go.Ws

namespace Go.Ws
open Go.Proofs
set_option linter.unusedSimpArgs false
set_option linter.unusedVariables false
set_option maxRecDepth 1000000
set_option maxHeartbeats 4000000
noncomputable def X17 : Ctx := ⟨Try.f17, [], true⟩
noncomputable def L17_0 : Code := at_ Try.f17 [1, 1, 1, 1, 1, 1, 0, 1, 4, 5]
def S17_0 (x1 : Int) (x2 : List (Int × Int)) (x3 : Int) (v17001_1 : Int) (v17001_2 : List (Int × Int)) (v17001_3 : List Int) : St := ⟨mkT 65 [(2, (.hp 0 0)), (4, (.hp 1 0)), (7, (.int .i64 (iadd .i64 x1 x3))), (8, (.ref 1 2 0 0 v17001_3.length .virt)), (9, (.ref 2 3 0 0 v17001_2.length .virt)), (10, (.int .i64 v17001_1))], [(.row [(.int .i64 x1), (.sl 2 (List.map e_i64_i64 x2))]), (.row [(.int .i64 0), .nils]), (.arr 1 (List.map e_i64 v17001_3) 0 0 false), (.arr 2 (List.map e_i64_i64 v17001_2) 0 0 false)]⟩
def E17_0_0 (x1 : Int) (x3 : Int) (v17002_1 : List Int) (v17002_2 : List (Int × Int)) : St := ⟨mkT 65 [(4, (.hp 0 0)), (7, (.int .i64 (iadd .i64 x1 x3))), (8, (.ref 1 1 0 0 v17002_1.length .virt)), (9, (.ref 2 2 0 0 v17002_2.length .virt))], [(.row [(.int .i64 0), .nils]), (.arr 1 (List.map e_i64 v17002_1) 0 0 false), (.arr 2 (List.map e_i64_i64 v17002_2) 0 0 false)]⟩
def O17_0 (x1 : Int) (x2 : List (Int × Int)) (x3 : Int) (y : ((List Int) × (List (Int × Int)))) : GX := .st (.exit 0) (E17_0_0 x1 x3 y.1 y.2)
theorem ok_ref06_Tick_l0 (x1 : Int) (x2 : List (Int × Int)) (x3 : Int) (y : ((List Int) × (List (Int × Int)))) : ∀ (k : Nat) (v17001_1 : Int) (v17001_2 : List (Int × Int)) (v17001_3 : List Int), ref06_Tick_l0 k x1 x2 x3 v17001_1 v17001_2 v17001_3 = some y → LT Try.prog X17 L17_0 (S17_0 x1 x2 x3 v17001_1 v17001_2 v17001_3) (O17_0 x1 x2 x3 y)
  | 0, v17001_1, v17001_2, v17001_3, h => by cases h
  | k + 1, v17001_1, v17001_2, v17001_3, h => by
    rw [ref06_Tick_l0] at h
    by_cases cL0 : ltI v17001_1 (nI x2.length) = true
    · rw [if_pos cL0] at h
      by_cases cL1 : inI v17001_1 x2.length = true
      · rw [if_pos cL1] at h
        obtain ⟨v17000_1, eL2, h⟩ := Option.bind_eq_some_iff.1 h
        by_cases cL3 : ltI (iadd .i64 x1 x3) v17000_1.2 = true
        · rw [if_pos cL3] at h
          by_cases cL4 : roomI (((v17001_2 ++ [v17000_1]).length) * 16) = true
          · rw [if_pos cL4] at h
            exact LT.next mixed (hs := ⟨[(2, []), (4, []), (7, []), (8, []), (9, []), (10, [])], [⟨.tmp 2, [], none⟩, ⟨.tmp 4, [], none⟩, ⟨.tmp 8, [], some 1⟩, ⟨.tmp 9, [], some 2⟩], false, [], []⟩) (es := none) [.n x2.length, .d true, .n x2.length, .row [(.int .i64 v17000_1.2)], .d false, .n x2.length, .row [(.int .i64 v17000_1.1), (.int .i64 v17000_1.2)], .rows (List.map e_i64_i64 [v17000_1]), .n ((v17001_2 ++ [v17000_1]).length), .n v17001_2.length, .d true, .rows (List.map e_i64_i64 (v17001_2 ++ [v17000_1])), .n v17001_3.length, .rows (List.map e_i64 v17001_3), .n ((v17001_2 ++ [v17000_1]).length), .rows (List.map e_i64_i64 (v17001_2 ++ [v17000_1]))] [⟨(take_all e_i64_i64 (l := (v17001_2 ++ [v17000_1])) (n := ((v17001_2 ++ [v17000_1]).length)) rfl)⟩, ⟨(rfl : (v17001_2 ++ [v17000_1]).length = (v17001_2 ++ [v17000_1]).length)⟩, ⟨(take_all e_i64 (l := v17001_3) (n := v17001_3.length) rfl)⟩, ⟨(rfl : v17001_3.length = v17001_3.length)⟩, ⟨(zle ((v17001_2 ++ [v17000_1]).length))⟩, ⟨(zle v17001_3.length)⟩, ⟨(app_map e_i64_i64 v17001_2 [v17000_1])⟩, ⟨(eqN_self v17001_2.length)⟩, ⟨(len_map e_i64_i64 v17001_2)⟩, ⟨cL4⟩, ⟨(by simp only [List.length_append, List.length_cons, List.length_nil, List.length_take, List.length_drop, List.length_set, List.length_replicate, List.length_map, List.map_nil, List.map_cons] <;> omega : v17001_2.length + (List.map e_i64_i64 [v17000_1]).length = (v17001_2 ++ [v17000_1]).length)⟩, ⟨(part_all e_i64_i64 (l := [v17000_1]) (n := 1) rfl)⟩, ⟨(le_map e_i64_i64 (Nat.le_refl 1) : 0 + 1 ≤ (List.map e_i64_i64 [v17000_1]).length)⟩, ⟨(cells_map (e := e_i64_i64) eL2 2 0 2 (by decide))⟩, ⟨cL1⟩, ⟨(len_map e_i64_i64 x2)⟩, ⟨(nF cL3)⟩, ⟨(cells_map (e := e_i64_i64) eL2 2 1 1 (by decide))⟩, ⟨cL1⟩, ⟨(len_map e_i64_i64 x2)⟩, ⟨cL0⟩, ⟨(len_map e_i64_i64 x2)⟩] (by kernel_rfl) (ok_ref06_Tick_l0 x1 x2 x3 y k (iadd .i64 v17001_1 1) (v17001_2 ++ [v17000_1]) v17001_3 h)
          · rw [if_neg cL4] at h
            replace cL4 := eqf cL4
            cases h
        · rw [if_neg cL3] at h
          replace cL3 := eqf cL3
          by_cases cL4 : roomI (((v17001_3 ++ [v17000_1.1]).length) * 8) = true
          · rw [if_pos cL4] at h
            exact LT.next mixed (hs := ⟨[(2, []), (4, []), (7, []), (8, []), (9, []), (10, [])], [⟨.tmp 2, [], none⟩, ⟨.tmp 4, [], none⟩, ⟨.tmp 8, [], some 1⟩, ⟨.tmp 9, [], some 2⟩], false, [], []⟩) (es := none) [.n x2.length, .d true, .n x2.length, .row [(.int .i64 v17000_1.2)], .d true, .n x2.length, .row [(.int .i64 v17000_1.1)], .rows (List.map e_i64 [v17000_1.1]), .n ((v17001_3 ++ [v17000_1.1]).length), .n v17001_3.length, .d true, .rows (List.map e_i64 (v17001_3 ++ [v17000_1.1])), .n ((v17001_3 ++ [v17000_1.1]).length), .rows (List.map e_i64 (v17001_3 ++ [v17000_1.1])), .n v17001_2.length, .rows (List.map e_i64_i64 v17001_2)] [⟨(take_all e_i64_i64 (l := v17001_2) (n := v17001_2.length) rfl)⟩, ⟨(rfl : v17001_2.length = v17001_2.length)⟩, ⟨(take_all e_i64 (l := (v17001_3 ++ [v17000_1.1])) (n := ((v17001_3 ++ [v17000_1.1]).length)) rfl)⟩, ⟨(rfl : (v17001_3 ++ [v17000_1.1]).length = (v17001_3 ++ [v17000_1.1]).length)⟩, ⟨(zle v17001_2.length)⟩, ⟨(zle ((v17001_3 ++ [v17000_1.1]).length))⟩, ⟨(app_map e_i64 v17001_3 [v17000_1.1])⟩, ⟨(eqN_self v17001_3.length)⟩, ⟨(len_map e_i64 v17001_3)⟩, ⟨cL4⟩, ⟨(by simp only [List.length_append, List.length_cons, List.length_nil, List.length_take, List.length_drop, List.length_set, List.length_replicate, List.length_map, List.map_nil, List.map_cons] <;> omega : v17001_3.length + (List.map e_i64 [v17000_1.1]).length = (v17001_3 ++ [v17000_1.1]).length)⟩, ⟨(part_all e_i64 (l := [v17000_1.1]) (n := 1) rfl)⟩, ⟨(le_map e_i64 (Nat.le_refl 1) : 0 + 1 ≤ (List.map e_i64 [v17000_1.1]).length)⟩, ⟨(cells_map (e := e_i64_i64) eL2 2 0 1 (by decide))⟩, ⟨cL1⟩, ⟨(len_map e_i64_i64 x2)⟩, ⟨(nT cL3)⟩, ⟨(cells_map (e := e_i64_i64) eL2 2 1 1 (by decide))⟩, ⟨cL1⟩, ⟨(len_map e_i64_i64 x2)⟩, ⟨cL0⟩, ⟨(len_map e_i64_i64 x2)⟩] (by kernel_rfl) (ok_ref06_Tick_l0 x1 x2 x3 y k (iadd .i64 v17001_1 1) v17001_2 (v17001_3 ++ [v17000_1.1]) h)
          · rw [if_neg cL4] at h
            replace cL4 := eqf cL4
            cases h
      · rw [if_neg cL1] at h
        replace cL1 := eqf cL1
        cases h
    · rw [if_neg cL0] at h
      replace cL0 := eqf cL0
      obtain rfl := Option.some.inj h
      show LT _ _ _ _ (.st (.exit 0) (E17_0_0 x1 x3 v17001_3 v17001_2))
      exact LT.done mixed (hs := ⟨[], [], false, [], []⟩) (es := (some ⟨[(4, []), (7, []), (8, []), (9, [])], [⟨.tmp 4, [], none⟩, ⟨.tmp 8, [], none⟩, ⟨.tmp 9, [], none⟩], false, [], []⟩)) [.n x2.length, .d false] [⟨cL0⟩, ⟨(len_map e_i64_i64 x2)⟩] (by kernel_rfl) (fun s h => by cases h)
theorem ok_ref06_Tick (k : Nat) (x1 : Int) (x2 : List (Int × Int)) (x3 : Int) (r : Int × (List (Int × Int)) × (List Int) × Int) (h : ref06_Tick k x1 x2 x3 = some r) : Tri Try.prog 17 [(.agg [(.int .i64 x1), (.sl 2 (List.map e_i64_i64 x2))]), (.int .i64 x3)] [] (.tup [(.agg [(.int .i64 r.1), (.sl 2 (List.map e_i64_i64 r.2.1))]), (.sl 1 (List.map e_i64 r.2.2.1)), (.int .i64 r.2.2.2)]) [] := by
    unfold ref06_Tick at h
    obtain ⟨x4, e0, h⟩ := Option.bind_eq_some_iff.1 h
    by_cases c1 : x4 = true
    · rw [if_pos c1] at h
      by_cases c2 : ltI x3 0 = true
      · rw [if_pos c2] at h
        obtain rfl := Option.some.inj h
        exact Tri.of (x := X17) mixed facts17 [.call ⟨true, []⟩ (.bool x4) [], .d false, .d false, .d false, .d true, .norm 0 ⟨[(4, []), (5, [(0, 1)]), (6, [])], [⟨.tmp 4, [], none⟩], false, [], []⟩] [⟨c2⟩, ⟨(nF c1)⟩, ⟨(nF c1)⟩, ⟨(nF c1)⟩, ⟨(ok_ref06_Right k x1 x2 _ e0)⟩] (by kernel_rfl)
      · rw [if_neg c2] at h
        replace c2 := eqf c2
        by_cases c3 : ltI (isub .i64 1099511627776 x1) x3 = true
        · rw [if_pos c3] at h
          obtain rfl := Option.some.inj h
          exact Tri.of (x := X17) mixed facts17 [.call ⟨true, []⟩ (.bool x4) [], .d false, .d false, .d false, .d false, .d true, .norm 0 ⟨[(4, []), (5, [(0, 1)]), (6, [])], [⟨.tmp 4, [], none⟩], false, [], []⟩] [⟨c3⟩, ⟨c2⟩, ⟨(nF c1)⟩, ⟨(nF c1)⟩, ⟨(nF c1)⟩, ⟨(ok_ref06_Right k x1 x2 _ e0)⟩] (by kernel_rfl)
        · rw [if_neg c3] at h
          replace c3 := eqf c3
          obtain ⟨x6, e4, h⟩ := Option.bind_eq_some_iff.1 h
          obtain rfl := Option.some.inj h
          exact Tri.of (x := X17) mixed facts17 [.call ⟨true, []⟩ (.bool x4) [], .d false, .d false, .d false, .d false, .d false, .norm 2 ⟨[(2, []), (4, []), (7, []), (8, []), (9, []), (10, [])], [⟨.tmp 2, [], none⟩, ⟨.tmp 4, [], none⟩, ⟨.tmp 8, [], some 1⟩, ⟨.tmp 9, [], some 2⟩], false, [], []⟩, .n 0, .rows (List.map e_i64 []), .n 0, .rows (List.map e_i64_i64 []), .out (.st .normal (E17_0_0 x1 x3 x6.1 x6.2)), .rows (List.map e_i64_i64 x6.2), .rows (List.map e_i64 x6.1)] [⟨(part_all e_i64 (l := x6.1) (n := x6.1.length) rfl)⟩, ⟨(le_map e_i64 (Nat.le_refl x6.1.length) : 0 + x6.1.length ≤ (List.map e_i64 x6.1).length)⟩, ⟨(part_all e_i64_i64 (l := x6.2) (n := x6.2.length) rfl)⟩, ⟨(le_map e_i64_i64 (Nat.le_refl x6.2.length) : 0 + x6.2.length ≤ (List.map e_i64_i64 x6.2).length)⟩, ⟨(LT.block (ok_ref06_Tick_l0 x1 x2 x3 _ k 0 [] [] e4))⟩, ⟨(take_all e_i64_i64 (l := []) (n := 0) rfl)⟩, ⟨(rfl : 0 = 0)⟩, ⟨(take_all e_i64 (l := []) (n := 0) rfl)⟩, ⟨(rfl : 0 = 0)⟩, ⟨(zle 0)⟩, ⟨(zle 0)⟩, ⟨c3⟩, ⟨c2⟩, ⟨(nF c1)⟩, ⟨(nF c1)⟩, ⟨(nF c1)⟩, ⟨(ok_ref06_Right k x1 x2 _ e0)⟩] (by kernel_rfl)
    · rw [if_neg c1] at h
      replace c1 := eqf c1
      obtain rfl := Option.some.inj h
      exact Tri.of (x := X17) mixed facts17 [.call ⟨true, []⟩ (.bool x4) [], .d true, .d true, .d true, .d true, .norm 0 ⟨[(4, []), (5, [(0, 1)]), (6, [])], [⟨.tmp 4, [], none⟩], false, [], []⟩] [⟨(rfl : true = true)⟩, ⟨(nT c1)⟩, ⟨(nT c1)⟩, ⟨(nT c1)⟩, ⟨(ok_ref06_Right k x1 x2 _ e0)⟩] (by kernel_rfl)
end Go.Ws

namespace Go.Ws
open Go.Proofs
set_option linter.unusedSimpArgs false
set_option linter.unusedVariables false
set_option maxRecDepth 1000000
set_option maxHeartbeats 4000000
noncomputable def X33 (x3 : Int) : Ctx := ⟨Try.f33, [(.row [(.int .i64 x3)])], false⟩
theorem ok_wheel_Wheel_find_1 (x1 : Int) (x2 : Int) (x3 : Int) : Tri Try.prog 33 [(.agg [(.int .i64 x1), (.int .i64 x2)]), (.hp 0 0)] [(.row [(.int .i64 x3)])] (.bool (eqI x1 x3)) [(.row [(.int .i64 x3)])] := by
    obtain ⟨r, h⟩ : ∃ r, wheel_Wheel_find_1 x1 x2 x3 = r := ⟨_, rfl⟩
    try rw [h]
    unfold wheel_Wheel_find_1 at h
    obtain rfl := h
    exact Tri.of (x := (X33 x3)) mixed facts33 [.norm 0 ⟨[(3, [])], [], false, [], []⟩] [] (by kernel_rfl)
end Go.Ws

namespace Go.Ws
open Go.Proofs
set_option linter.unusedSimpArgs false
set_option linter.unusedVariables false
set_option maxRecDepth 1000000
set_option maxHeartbeats 4000000
noncomputable def X32 (x2 : Int) : Ctx := ⟨Try.f32, [(.row [(.int .i64 x2)])], false⟩
noncomputable def L32_0 : Code := at_ Try.f32 [1, 0, 1, 4, 5]
def S32_0 (x1 : List (Int × Int)) (x2 : Int) (v32001_1 : Int) : St := ⟨mkT 19 [(0, (.sl 2 (List.map e_i64_i64 x1))), (1, (.fn 33 [(.hp 0 0)])), (7, (.int .i64 (nI x1.length))), (8, (.int .i64 v32001_1))], [(.row [(.int .i64 x2)])]⟩
def E32_0_0 (x2 : Int) : St := ⟨mkT 19 [], [(.row [(.int .i64 x2)])]⟩
def O32_0 (x1 : List (Int × Int)) (x2 : Int) (y : (Sum (Unit) (Int))) : GX := match y with
  | .inl y => .st (.exit 0) (E32_0_0 x2)
  | .inr y => .fin (.int .i64 y) [(.row [(.int .i64 x2)])]
theorem ok_slices_IndexFunc_l0 (x1 : List (Int × Int)) (x2 : Int) (y : (Sum (Unit) (Int))) : ∀ (k : Nat) (v32001_1 : Int), slices_IndexFunc_l0 k x1 x2 v32001_1 = some y → LT Try.prog (X32 x2) L32_0 (S32_0 x1 x2 v32001_1) (O32_0 x1 x2 y)
  | 0, v32001_1, h => by cases h
  | k + 1, v32001_1, h => by
    rw [slices_IndexFunc_l0] at h
    by_cases cL0 : ltI v32001_1 (nI x1.length) = true
    · rw [if_pos cL0] at h
      by_cases cL1 : inI v32001_1 x1.length = true
      · rw [if_pos cL1] at h
        obtain ⟨v32000_1, eL2, h⟩ := Option.bind_eq_some_iff.1 h
        by_cases cL3 : eqI v32000_1.1 x2 = true
        · rw [if_pos cL3] at h
          obtain rfl := Option.some.inj h
          show LT _ _ _ _ (.fin (.int .i64 v32001_1) [(.row [(.int .i64 x2)])])
          exact LT.done mixed (hs := ⟨[], [], false, [], []⟩) (es := none) [.d true, .n x1.length, .row [(.int .i64 v32000_1.1), (.int .i64 v32000_1.2)], .call ⟨true, []⟩ (.bool (eqI v32000_1.1 x2)) [(.row [(.int .i64 x2)])], .d true, .norm 0 ⟨[(4, [])], [], false, [], []⟩] [⟨cL3⟩, ⟨(ok_wheel_Wheel_find_1 v32000_1.1 v32000_1.2 x2)⟩, ⟨(cells_map (e := e_i64_i64) eL2 2 0 2 (by decide))⟩, ⟨cL1⟩, ⟨(len_map e_i64_i64 x1)⟩, ⟨cL0⟩] (by kernel_rfl) (fun s h => by cases h)
        · rw [if_neg cL3] at h
          replace cL3 := eqf cL3
          exact LT.next mixed (hs := ⟨[(0, []), (1, []), (7, []), (8, [])], [], false, [], []⟩) (es := none) [.d true, .n x1.length, .row [(.int .i64 v32000_1.1), (.int .i64 v32000_1.2)], .call ⟨true, []⟩ (.bool (eqI v32000_1.1 x2)) [(.row [(.int .i64 x2)])], .d false] [⟨cL3⟩, ⟨(ok_wheel_Wheel_find_1 v32000_1.1 v32000_1.2 x2)⟩, ⟨(cells_map (e := e_i64_i64) eL2 2 0 2 (by decide))⟩, ⟨cL1⟩, ⟨(len_map e_i64_i64 x1)⟩, ⟨cL0⟩] (by kernel_rfl) (ok_slices_IndexFunc_l0 x1 x2 y k (iadd .i64 v32001_1 1) h)
      · rw [if_neg cL1] at h
        replace cL1 := eqf cL1
        cases h
    · rw [if_neg cL0] at h
      replace cL0 := eqf cL0
      obtain rfl := Option.some.inj h
      show LT _ _ _ _ (.st (.exit 0) (E32_0_0 x2))
      exact LT.done mixed (hs := ⟨[], [], false, [], []⟩) (es := (some ⟨[], [], false, [], []⟩)) [.d false] [⟨cL0⟩] (by kernel_rfl) (fun s h => by cases h)
theorem ok_slices_IndexFunc (k : Nat) (x1 : List (Int × Int)) (x2 : Int) (r : Int) (h : slices_IndexFunc k x1 x2 = some r) : Tri Try.prog 32 [(.sl 2 (List.map e_i64_i64 x1)), (.fn 33 [(.hp 0 0)])] [(.row [(.int .i64 x2)])] (.int .i64 r) [(.row [(.int .i64 x2)])] := by
    unfold slices_IndexFunc at h
    obtain ⟨x3, e0, h⟩ := Option.bind_eq_some_iff.1 h
    cases x3 with
    | inl x4 =>
      simp only [Sum.elim_inl] at h
      obtain rfl := Option.some.inj h
      exact Tri.of (x := (X32 x2)) mixed facts32 [.n x1.length, .norm 2 ⟨[(0, []), (1, []), (7, []), (8, [])], [], false, [], []⟩, .out (.st .normal (E32_0_0 x2)), .norm 0 ⟨[(4, [])], [], false, [], []⟩] [⟨(LT.block (ok_slices_IndexFunc_l0 x1 x2 _ k 0 e0))⟩, ⟨(len_map e_i64_i64 x1)⟩] (by kernel_rfl)
    | inr x4 =>
      simp only [Sum.elim_inr] at h
      obtain rfl := Option.some.inj h
      exact Tri.of (x := (X32 x2)) mixed facts32 [.n x1.length, .norm 2 ⟨[(0, []), (1, []), (7, []), (8, [])], [], false, [], []⟩, .out (.fin (.int .i64 x4) [(.row [(.int .i64 x2)])])] [⟨(LT.blockFin (id := 0) (ok_slices_IndexFunc_l0 x1 x2 _ k 0 e0))⟩, ⟨(len_map e_i64_i64 x1)⟩] (by kernel_rfl)
end Go.Ws

namespace Go.Ws
open Go.Proofs
set_option linter.unusedSimpArgs false
set_option linter.unusedVariables false
set_option maxRecDepth 1000000
set_option maxHeartbeats 4000000
noncomputable def X25 : Ctx := ⟨Try.f25, [], true⟩
theorem ok_wheel_Wheel_find (k : Nat) (x1 : Int) (x2 : List (Int × Int)) (x3 : Int) (r : Int) (h : wheel_Wheel_find k x1 x2 x3 = some r) : Tri Try.prog 25 [(.agg [(.int .i64 x1), (.sl 2 (List.map e_i64_i64 x2))]), (.int .i64 x3)] [] (.int .i64 r) [] := by
    unfold wheel_Wheel_find at h
    obtain ⟨x4, e0, h⟩ := Option.bind_eq_some_iff.1 h
    obtain rfl := Option.some.inj h
    exact Tri.of (x := X25) mixed facts25 [.call ⟨true, []⟩ (.int .i64 x4) [(.row [(.int .i64 x3)])]] [⟨(ok_slices_IndexFunc k x2 x3 _ e0)⟩] (by kernel_rfl)
end Go.Ws

namespace Go.Ws
open Go.Proofs
set_option linter.unusedSimpArgs false
set_option linter.unusedVariables false
set_option maxRecDepth 1000000
set_option maxHeartbeats 4000000
noncomputable def X24_1001 : Ctx := ⟨Try.f24, [], false⟩
theorem ok_slices_Clone_1001 (k : Nat) (x1 : List (Int × Int)) (r : Unit) (h : slices_Clone_1001 k x1 = some r) : Tri Try.prog 24 [(.inl 2 (List.map e_i64_i64 x1))] [] (.ref 2 0 0 0 x1.length .virt) [(.arr 2 (List.map e_i64_i64 x1) 0 0 false)] := by
    unfold slices_Clone_1001 at h
    by_cases c0 : roomI (x1.length * 16) = true
    · rw [if_pos c0] at h
      obtain rfl := Option.some.inj h
      exact Tri.of (x := X24_1001) mixed facts24 [.d false, .n x1.length, .norm 0 ⟨[(2, [])], [⟨.tmp 2, [], some 2⟩], false, [], []⟩, .n x1.length, .rows (List.map e_i64_i64 x1)] [⟨(take_all e_i64_i64 (l := x1) (n := x1.length) rfl)⟩, ⟨(rfl : x1.length = x1.length)⟩, ⟨(zle x1.length)⟩, ⟨c0⟩, ⟨(len_map e_i64_i64 x1)⟩, ⟨(rfl : false = false)⟩] (by kernel_rfl)
    · rw [if_neg c0] at h
      replace c0 := eqf c0
      cases h
end Go.Ws

namespace Go.Ws
open Go.Proofs
set_option linter.unusedSimpArgs false
set_option linter.unusedVariables false
set_option maxRecDepth 1000000
set_option maxHeartbeats 4000000
noncomputable def X24_1002 : Ctx := ⟨Try.f24, [], false⟩
theorem ok_slices_Clone_1002 : Tri Try.prog 24 [.nils] [] (.ref 2 0 0 0 0 .virt) [(.arr 2 (List.map e_i64_i64 []) 0 0 false)] := by
    obtain ⟨r, h⟩ : ∃ r, slices_Clone_1002 = r := ⟨_, rfl⟩
    try rw [h]
    unfold slices_Clone_1002 at h
    obtain rfl := h
    exact Tri.of (x := X24_1002) mixed facts24 [.d true, .norm 0 ⟨[(2, [])], [⟨.tmp 2, [], some 2⟩], false, [], []⟩, .n 0, .rows (List.map e_i64_i64 [])] [⟨(take_all e_i64_i64 (l := []) (n := 0) rfl)⟩, ⟨(rfl : 0 = 0)⟩, ⟨(zle 0)⟩, ⟨(rfl : true = true)⟩] (by kernel_rfl)
end Go.Ws

namespace Go.Ws
open Go.Proofs
set_option linter.unusedSimpArgs false
set_option linter.unusedVariables false
set_option maxRecDepth 1000000
set_option maxHeartbeats 4000000
theorem ok_slices_Clone (k : Nat) (x1 : List (Int × Int)) (r : Unit) (h : slices_Clone k x1 = some r) : Tri Try.prog 24 [(.sl 2 (List.map e_i64_i64 x1))] [] (.ref 2 0 0 0 x1.length .virt) [(.arr 2 (List.map e_i64_i64 x1) 0 0 false)] := by
    refine Tri.slOf (ok_slices_Clone_1001 k x1 r h) fun h0 => ?_
    have hx : x1 = [] := by simpa using h0
    subst hx
    exact ok_slices_Clone_1002
end Go.Ws

namespace Go.Ws
open Go.Proofs
set_option linter.unusedSimpArgs false
set_option linter.unusedVariables false
set_option maxRecDepth 1000000
set_option maxHeartbeats 4000000
theorem ok_slices_Delete (k : Nat) (x1 : Int) (x2 : Int) (x3 : List (Int × Int)) (r : List (Int × Int)) (h : slices_Delete k x1 x2 x3 = some r) : Tri Try.prog 31 [(.ref 2 0 0 0 x3.length .virt), (.int .i64 x1), (.int .i64 x2)] [(.arr 2 (List.map e_i64_i64 x3) 0 0 false)] (.ref 2 0 1 0 r.length .full) [(.arr 2 (List.map e_i64_i64 r) 1 1 false)] := del_ok31 _ h
end Go.Ws

namespace Go.Ws
open Go.Proofs
set_option linter.unusedSimpArgs false
set_option linter.unusedVariables false
set_option maxRecDepth 1000000
set_option maxHeartbeats 4000000
noncomputable def X14 : Ctx := ⟨Try.f14, [], true⟩
theorem ok_wheel_Stop (k : Nat) (x1 : Int) (x2 : List (Int × Int)) (x3 : Int) (r : Int × (List (Int × Int)) × Int) (h : wheel_Stop k x1 x2 x3 = some r) : Tri Try.prog 14 [(.agg [(.int .i64 x1), (.sl 2 (List.map e_i64_i64 x2))]), (.int .i64 x3)] [] (.tup [(.agg [(.int .i64 r.1), (.sl 2 (List.map e_i64_i64 r.2.1))]), (.int .i64 r.2.2)]) [] := by
    unfold wheel_Stop at h
    obtain ⟨x4, e0, h⟩ := Option.bind_eq_some_iff.1 h
    obtain ⟨x5, e1, h⟩ := Option.bind_eq_some_iff.1 h
    by_cases c2 : x5 = true
    · rw [if_pos c2] at h
      obtain ⟨x6, e3, h⟩ := Option.bind_eq_some_iff.1 h
      by_cases c4 : ltI x6 0 = true
      · rw [if_pos c4] at h
        obtain rfl := Option.some.inj h
        exact Tri.of (x := X14) mixed facts14 [.call ⟨true, []⟩ (.ref 2 0 0 0 x2.length .virt) [(.arr 2 (List.map e_i64_i64 x2) 0 0 false)], .call ⟨true, []⟩ (.bool x5) [], .rows (List.map e_i64_i64 x2), .d false, .call ⟨true, []⟩ (.int .i64 x6) [], .rows (List.map e_i64_i64 x2), .d true, .rows (List.map e_i64_i64 x2)] [⟨(part_all e_i64_i64 (l := x2) (n := x2.length) rfl)⟩, ⟨(le_map e_i64_i64 (Nat.le_refl x2.length) : 0 + x2.length ≤ (List.map e_i64_i64 x2).length)⟩, ⟨c4⟩, ⟨(ok_wheel_Wheel_find k x1 x2 x3 _ e3)⟩, ⟨(part_all e_i64_i64 (l := x2) (n := x2.length) rfl)⟩, ⟨(le_map e_i64_i64 (Nat.le_refl x2.length) : 0 + x2.length ≤ (List.map e_i64_i64 x2).length)⟩, ⟨(nF c2)⟩, ⟨(ok_wheel_Right k x1 x2 _ e1)⟩, ⟨(part_all e_i64_i64 (l := x2) (n := x2.length) rfl)⟩, ⟨(le_map e_i64_i64 (Nat.le_refl x2.length) : 0 + x2.length ≤ (List.map e_i64_i64 x2).length)⟩, ⟨(ok_slices_Clone k x2 _ e0)⟩] (by kernel_rfl)
      · rw [if_neg c4] at h
        replace c4 := eqf c4
        obtain ⟨x7, e5, h⟩ := Option.bind_eq_some_iff.1 h
        obtain rfl := Option.some.inj h
        exact Tri.of (x := X14) mixed facts14 [.call ⟨true, []⟩ (.ref 2 0 0 0 x2.length .virt) [(.arr 2 (List.map e_i64_i64 x2) 0 0 false)], .call ⟨true, []⟩ (.bool x5) [], .rows (List.map e_i64_i64 x2), .d false, .call ⟨true, []⟩ (.int .i64 x6) [], .rows (List.map e_i64_i64 x2), .d false, .call ⟨false, []⟩ (.ref 2 0 1 0 x7.length .full) [(.arr 2 (List.map e_i64_i64 x7) 1 1 false)], .rows (List.map e_i64_i64 x7)] [⟨(part_all e_i64_i64 (l := x7) (n := x7.length) rfl)⟩, ⟨(le_map e_i64_i64 (Nat.le_refl x7.length) : 0 + x7.length ≤ (List.map e_i64_i64 x7).length)⟩, ⟨(ok_slices_Delete k x6 (iadd .i64 x6 1) x2 _ e5)⟩, ⟨c4⟩, ⟨(ok_wheel_Wheel_find k x1 x2 x3 _ e3)⟩, ⟨(part_all e_i64_i64 (l := x2) (n := x2.length) rfl)⟩, ⟨(le_map e_i64_i64 (Nat.le_refl x2.length) : 0 + x2.length ≤ (List.map e_i64_i64 x2).length)⟩, ⟨(nF c2)⟩, ⟨(ok_wheel_Right k x1 x2 _ e1)⟩, ⟨(part_all e_i64_i64 (l := x2) (n := x2.length) rfl)⟩, ⟨(le_map e_i64_i64 (Nat.le_refl x2.length) : 0 + x2.length ≤ (List.map e_i64_i64 x2).length)⟩, ⟨(ok_slices_Clone k x2 _ e0)⟩] (by kernel_rfl)
    · rw [if_neg c2] at h
      replace c2 := eqf c2
      obtain rfl := Option.some.inj h
      exact Tri.of (x := X14) mixed facts14 [.call ⟨true, []⟩ (.ref 2 0 0 0 x2.length .virt) [(.arr 2 (List.map e_i64_i64 x2) 0 0 false)], .call ⟨true, []⟩ (.bool x5) [], .rows (List.map e_i64_i64 x2), .d true, .rows (List.map e_i64_i64 x2)] [⟨(part_all e_i64_i64 (l := x2) (n := x2.length) rfl)⟩, ⟨(le_map e_i64_i64 (Nat.le_refl x2.length) : 0 + x2.length ≤ (List.map e_i64_i64 x2).length)⟩, ⟨(nT c2)⟩, ⟨(ok_wheel_Right k x1 x2 _ e1)⟩, ⟨(part_all e_i64_i64 (l := x2) (n := x2.length) rfl)⟩, ⟨(le_map e_i64_i64 (Nat.le_refl x2.length) : 0 + x2.length ≤ (List.map e_i64_i64 x2).length)⟩, ⟨(ok_slices_Clone k x2 _ e0)⟩] (by kernel_rfl)
end Go.Ws

namespace Go.Ws
open Go.Proofs
set_option linter.unusedSimpArgs false
set_option linter.unusedVariables false
set_option maxRecDepth 1000000
set_option maxHeartbeats 4000000
noncomputable def X14_1 : Ctx := ⟨Try.f14, [], false⟩
theorem ok_wheel_Stop_1 (k : Nat) (x1 : Int) (x2 : List (Int × Int)) (x3 : Int) (r : Int × (List (Int × Int))) (h : wheel_Stop_1 k x1 x2 x3 = some r) : Tri Try.prog 14 [(.agg [(.int .i64 x1), (.sl 2 (List.map e_i64_i64 x2))]), (.int .i64 x3)] [] (.tup [(.agg [(.int .i64 x1), (.ref 2 0 0 0 r.2.length .virt)]), (.int .i64 r.1)]) [(.arr 2 (List.map e_i64_i64 r.2) 0 0 false)] := by
    unfold wheel_Stop_1 at h
    obtain ⟨x4, e0, h⟩ := Option.bind_eq_some_iff.1 h
    obtain ⟨x5, e1, h⟩ := Option.bind_eq_some_iff.1 h
    by_cases c2 : x5 = true
    · rw [if_pos c2] at h
      obtain ⟨x6, e3, h⟩ := Option.bind_eq_some_iff.1 h
      by_cases c4 : ltI x6 0 = true
      · rw [if_pos c4] at h
        obtain rfl := Option.some.inj h
        exact Tri.of (x := X14_1) mixed facts14 [.call ⟨true, []⟩ (.ref 2 0 0 0 x2.length .virt) [(.arr 2 (List.map e_i64_i64 x2) 0 0 false)], .call ⟨true, []⟩ (.bool x5) [], .rows (List.map e_i64_i64 x2), .d false, .call ⟨true, []⟩ (.int .i64 x6) [], .rows (List.map e_i64_i64 x2), .d true, .norm 0 ⟨[(4, []), (5, [])], [⟨.tmp 4, [], none⟩, ⟨.cell 0 1, [], some 2⟩], false, [], []⟩, .n x2.length, .rows (List.map e_i64_i64 x2)] [⟨(take_all e_i64_i64 (l := x2) (n := x2.length) rfl)⟩, ⟨(rfl : x2.length = x2.length)⟩, ⟨(zle x2.length)⟩, ⟨c4⟩, ⟨(ok_wheel_Wheel_find k x1 x2 x3 _ e3)⟩, ⟨(part_all e_i64_i64 (l := x2) (n := x2.length) rfl)⟩, ⟨(le_map e_i64_i64 (Nat.le_refl x2.length) : 0 + x2.length ≤ (List.map e_i64_i64 x2).length)⟩, ⟨(nF c2)⟩, ⟨(ok_wheel_Right k x1 x2 _ e1)⟩, ⟨(part_all e_i64_i64 (l := x2) (n := x2.length) rfl)⟩, ⟨(le_map e_i64_i64 (Nat.le_refl x2.length) : 0 + x2.length ≤ (List.map e_i64_i64 x2).length)⟩, ⟨(ok_slices_Clone k x2 _ e0)⟩] (by kernel_rfl)
      · rw [if_neg c4] at h
        replace c4 := eqf c4
        obtain ⟨x7, e5, h⟩ := Option.bind_eq_some_iff.1 h
        obtain rfl := Option.some.inj h
        exact Tri.of (x := X14_1) mixed facts14 [.call ⟨true, []⟩ (.ref 2 0 0 0 x2.length .virt) [(.arr 2 (List.map e_i64_i64 x2) 0 0 false)], .call ⟨true, []⟩ (.bool x5) [], .rows (List.map e_i64_i64 x2), .d false, .call ⟨true, []⟩ (.int .i64 x6) [], .rows (List.map e_i64_i64 x2), .d false, .call ⟨false, []⟩ (.ref 2 0 1 0 x7.length .full) [(.arr 2 (List.map e_i64_i64 x7) 1 1 false)], .norm 0 ⟨[(4, []), (5, [])], [⟨.tmp 4, [], none⟩, ⟨.cell 0 1, [], some 2⟩], false, [], []⟩, .n x7.length, .rows (List.map e_i64_i64 x7)] [⟨(take_all e_i64_i64 (l := x7) (n := x7.length) rfl)⟩, ⟨(rfl : x7.length = x7.length)⟩, ⟨(zle x7.length)⟩, ⟨(ok_slices_Delete k x6 (iadd .i64 x6 1) x2 _ e5)⟩, ⟨c4⟩, ⟨(ok_wheel_Wheel_find k x1 x2 x3 _ e3)⟩, ⟨(part_all e_i64_i64 (l := x2) (n := x2.length) rfl)⟩, ⟨(le_map e_i64_i64 (Nat.le_refl x2.length) : 0 + x2.length ≤ (List.map e_i64_i64 x2).length)⟩, ⟨(nF c2)⟩, ⟨(ok_wheel_Right k x1 x2 _ e1)⟩, ⟨(part_all e_i64_i64 (l := x2) (n := x2.length) rfl)⟩, ⟨(le_map e_i64_i64 (Nat.le_refl x2.length) : 0 + x2.length ≤ (List.map e_i64_i64 x2).length)⟩, ⟨(ok_slices_Clone k x2 _ e0)⟩] (by kernel_rfl)
    · rw [if_neg c2] at h
      replace c2 := eqf c2
      obtain rfl := Option.some.inj h
      exact Tri.of (x := X14_1) mixed facts14 [.call ⟨true, []⟩ (.ref 2 0 0 0 x2.length .virt) [(.arr 2 (List.map e_i64_i64 x2) 0 0 false)], .call ⟨true, []⟩ (.bool x5) [], .rows (List.map e_i64_i64 x2), .d true, .norm 0 ⟨[(4, []), (5, [])], [⟨.tmp 4, [], none⟩, ⟨.cell 0 1, [], some 2⟩], false, [], []⟩, .n x2.length, .rows (List.map e_i64_i64 x2)] [⟨(take_all e_i64_i64 (l := x2) (n := x2.length) rfl)⟩, ⟨(rfl : x2.length = x2.length)⟩, ⟨(zle x2.length)⟩, ⟨(nT c2)⟩, ⟨(ok_wheel_Right k x1 x2 _ e1)⟩, ⟨(part_all e_i64_i64 (l := x2) (n := x2.length) rfl)⟩, ⟨(le_map e_i64_i64 (Nat.le_refl x2.length) : 0 + x2.length ≤ (List.map e_i64_i64 x2).length)⟩, ⟨(ok_slices_Clone k x2 _ e0)⟩] (by kernel_rfl)
end Go.Ws

namespace Go.Ws
open Go.Proofs
set_option linter.unusedSimpArgs false
set_option linter.unusedVariables false
set_option maxRecDepth 1000000
set_option maxHeartbeats 4000000
noncomputable def X26 : Ctx := ⟨Try.f26, [], true⟩
noncomputable def L26_0 : Code := at_ Try.f26 [1, 1, 1, 0, 4, 5]
def S26_0 (x1 : List (Int × Int)) (x2 : Int) (x3 : Int) (v26001_1 : Int) (v26001_2 : Int) : St := ⟨mkT 49 [(0, (.sl 2 (List.map e_i64_i64 x1))), (2, (.fn 27 [])), (4, (.hp 0 0)), (8, (.int .i64 (nI x1.length))), (9, (.int .i64 v26001_1)), (10, (.int .i64 v26001_2))], [(.row [(.int .i64 x2), (.int .i64 x3)])]⟩
def E26_0_0 (x1 : List (Int × Int)) (x2 : Int) (x3 : Int) (v26002_1 : Int) : St := ⟨mkT 49 [(0, (.sl 2 (List.map e_i64_i64 x1))), (2, (.fn 27 [])), (4, (.hp 0 0)), (8, (.int .i64 (nI x1.length))), (9, (.int .i64 v26002_1))], [(.row [(.int .i64 x2), (.int .i64 x3)])]⟩
def O26_0 (x1 : List (Int × Int)) (x2 : Int) (x3 : Int) (y : (Int)) : GX := .st (.exit 0) (E26_0_0 x1 x2 x3 y)
theorem ok_slices_BinarySearchFunc_l0 (x1 : List (Int × Int)) (x2 : Int) (x3 : Int) (y : (Int)) : ∀ (k : Nat) (v26001_1 : Int) (v26001_2 : Int), slices_BinarySearchFunc_l0 k x1 x2 x3 v26001_1 v26001_2 = some y → LT Try.prog X26 L26_0 (S26_0 x1 x2 x3 v26001_1 v26001_2) (O26_0 x1 x2 x3 y)
  | 0, v26001_1, v26001_2, h => by cases h
  | k + 1, v26001_1, v26001_2, h => by
    rw [slices_BinarySearchFunc_l0] at h
    by_cases cL0 : ltI v26001_1 v26001_2 = true
    · rw [if_pos cL0] at h
      by_cases cL1 : inI (conv .i64 (ishr .u64 (conv .u64 (iadd .i64 v26001_1 v26001_2)) 1)) x1.length = true
      · rw [if_pos cL1] at h
        obtain ⟨v26000_1, eL2, h⟩ := Option.bind_eq_some_iff.1 h
        obtain ⟨v26000_2, eL3, h⟩ := Option.bind_eq_some_iff.1 h
        by_cases cL4 : ltI v26000_2 0 = true
        · rw [if_pos cL4] at h
          exact LT.next mixed (hs := ⟨[(0, []), (2, []), (4, []), (8, []), (9, []), (10, [])], [⟨.tmp 4, [], none⟩], false, [], []⟩) (es := none) [.d true, .n x1.length, .row [(.int .i64 v26000_1.1), (.int .i64 v26000_1.2)], .call ⟨true, []⟩ (.int .i64 v26000_2) [], .d true] [⟨cL4⟩, ⟨(ok_wheel_order k v26000_1.1 v26000_1.2 x2 x3 _ eL3)⟩, ⟨(cells_map (e := e_i64_i64) eL2 2 0 2 (by decide))⟩, ⟨cL1⟩, ⟨(len_map e_i64_i64 x1)⟩, ⟨cL0⟩] (by kernel_rfl) (ok_slices_BinarySearchFunc_l0 x1 x2 x3 y k (iadd .i64 (conv .i64 (ishr .u64 (conv .u64 (iadd .i64 v26001_1 v26001_2)) 1)) 1) v26001_2 h)
        · rw [if_neg cL4] at h
          replace cL4 := eqf cL4
          exact LT.next mixed (hs := ⟨[(0, []), (2, []), (4, []), (8, []), (9, []), (10, [])], [⟨.tmp 4, [], none⟩], false, [], []⟩) (es := none) [.d true, .n x1.length, .row [(.int .i64 v26000_1.1), (.int .i64 v26000_1.2)], .call ⟨true, []⟩ (.int .i64 v26000_2) [], .d false] [⟨cL4⟩, ⟨(ok_wheel_order k v26000_1.1 v26000_1.2 x2 x3 _ eL3)⟩, ⟨(cells_map (e := e_i64_i64) eL2 2 0 2 (by decide))⟩, ⟨cL1⟩, ⟨(len_map e_i64_i64 x1)⟩, ⟨cL0⟩] (by kernel_rfl) (ok_slices_BinarySearchFunc_l0 x1 x2 x3 y k v26001_1 (conv .i64 (ishr .u64 (conv .u64 (iadd .i64 v26001_1 v26001_2)) 1)) h)
      · rw [if_neg cL1] at h
        replace cL1 := eqf cL1
        cases h
    · rw [if_neg cL0] at h
      replace cL0 := eqf cL0
      obtain rfl := Option.some.inj h
      show LT _ _ _ _ (.st (.exit 0) (E26_0_0 x1 x2 x3 v26001_1))
      exact LT.done mixed (hs := ⟨[], [], false, [], []⟩) (es := (some ⟨[(0, []), (2, []), (4, []), (8, []), (9, [])], [⟨.tmp 4, [], none⟩], false, [], []⟩)) [.d false] [⟨cL0⟩] (by kernel_rfl) (fun s h => by cases h)
theorem ok_slices_BinarySearchFunc (k : Nat) (x1 : List (Int × Int)) (x2 : Int) (x3 : Int) (r : Int × Bool) (h : slices_BinarySearchFunc k x1 x2 x3 = some r) : Tri Try.prog 26 [(.sl 2 (List.map e_i64_i64 x1)), (.agg [(.int .i64 x2), (.int .i64 x3)]), (.fn 27 [])] [] (.tup [(.int .i64 r.1), (.bool r.2)]) [] := by
    unfold slices_BinarySearchFunc at h
    obtain ⟨x5, e0, h⟩ := Option.bind_eq_some_iff.1 h
    by_cases c2 : ltI x5 (nI x1.length) = true
    · rw [if_pos c2] at h
      by_cases c3 : inI x5 x1.length = true
      · rw [if_pos c3] at h
        obtain ⟨x6, e4, h⟩ := Option.bind_eq_some_iff.1 h
        obtain ⟨x7, e5, h⟩ := Option.bind_eq_some_iff.1 h
        obtain rfl := Option.some.inj h
        exact Tri.of (x := X26) mixed facts26 [.n x1.length, .norm 2 ⟨[(0, []), (2, []), (4, []), (8, []), (9, []), (10, [])], [⟨.tmp 4, [], none⟩], false, [], []⟩, .out (.st .normal (E26_0_0 x1 x2 x3 x5)), .d true, .d true, .d true, .d true, .n x1.length, .d true, .row [(.int .i64 x6.1), (.int .i64 x6.2)], .d true, .d true, .call ⟨true, []⟩ (.int .i64 x7) [], .d true, .d true] [⟨c2⟩, ⟨c2⟩, ⟨(ok_wheel_order k x6.1 x6.2 x2 x3 _ e5)⟩, ⟨c2⟩, ⟨c2⟩, ⟨(cells_map (e := e_i64_i64) e4 2 0 2 (by decide))⟩, ⟨c2⟩, ⟨c3⟩, ⟨(len_map e_i64_i64 x1)⟩, ⟨c2⟩, ⟨c2⟩, ⟨c2⟩, ⟨c2⟩, ⟨(LT.block (ok_slices_BinarySearchFunc_l0 x1 x2 x3 _ k 0 (nI x1.length) e0))⟩, ⟨(len_map e_i64_i64 x1)⟩] (by kernel_rfl)
      · rw [if_neg c3] at h
        replace c3 := eqf c3
        cases h
    · rw [if_neg c2] at h
      replace c2 := eqf c2
      obtain rfl := Option.some.inj h
      exact Tri.of (x := X26) mixed facts26 [.n x1.length, .norm 2 ⟨[(0, []), (2, []), (4, []), (8, []), (9, []), (10, [])], [⟨.tmp 4, [], none⟩], false, [], []⟩, .out (.st .normal (E26_0_0 x1 x2 x3 x5)), .d false, .d false, .d false, .d false, .d false, .d false, .d false, .d false, .d false] [⟨c2⟩, ⟨c2⟩, ⟨c2⟩, ⟨c2⟩, ⟨c2⟩, ⟨c2⟩, ⟨c2⟩, ⟨c2⟩, ⟨c2⟩, ⟨(LT.block (ok_slices_BinarySearchFunc_l0 x1 x2 x3 _ k 0 (nI x1.length) e0))⟩, ⟨(len_map e_i64_i64 x1)⟩] (by kernel_rfl)
end Go.Ws

namespace Go.Ws
open Go.Proofs
set_option linter.unusedSimpArgs false
set_option linter.unusedVariables false
set_option maxRecDepth 1000000
set_option maxHeartbeats 4000000
theorem ok_slices_Insert (k : Nat) (x1 : Int) (x2 : List (Int × Int)) (x3 : List (Int × Int)) (r : List (Int × Int)) (h : slices_Insert k x1 x2 x3 = some r) : Tri Try.prog 28 [(.ref 2 0 0 0 x2.length .virt), (.int .i64 x1), (.ref 2 1 0 0 x3.length .full)] [(.arr 2 (List.map e_i64_i64 x2) 0 0 false), (.arr 2 (List.map e_i64_i64 x3) 0 0 false)] (.ref 2 0 1 0 r.length .full) [(.arr 2 (List.map e_i64_i64 r) 1 1 false), (.arr 2 (List.map e_i64_i64 x3) 0 0 false)] := ins_ok28 _ h rfl
end Go.Ws

namespace Go.Ws
open Go.Proofs
set_option linter.unusedSimpArgs false
set_option linter.unusedVariables false
set_option maxRecDepth 1000000
set_option maxHeartbeats 4000000
noncomputable def X11 : Ctx := ⟨Try.f11, [], true⟩
theorem ok_wheel_Set (k : Nat) (x1 : Int) (x2 : List (Int × Int)) (x3 : Int) (x4 : Int) (r : Int × (List (Int × Int)) × Int) (h : wheel_Set k x1 x2 x3 x4 = some r) : Tri Try.prog 11 [(.agg [(.int .i64 x1), (.sl 2 (List.map e_i64_i64 x2))]), (.int .i64 x3), (.int .i64 x4)] [] (.tup [(.agg [(.int .i64 r.1), (.sl 2 (List.map e_i64_i64 r.2.1))]), (.int .i64 r.2.2)]) [] := by
    unfold wheel_Set at h
    obtain ⟨x5, e0, h⟩ := Option.bind_eq_some_iff.1 h
    obtain ⟨x6, e1, h⟩ := Option.bind_eq_some_iff.1 h
    by_cases c2 : x6 = true
    · rw [if_pos c2] at h
      by_cases c3 : ltI x1 x4 = true
      · rw [if_pos c3] at h
        by_cases c4 : ltI 1099511627776 x4 = true
        · rw [if_pos c4] at h
          obtain rfl := Option.some.inj h
          exact Tri.of (x := X11) mixed facts11 [.call ⟨true, []⟩ (.ref 2 0 0 0 x2.length .virt) [(.arr 2 (List.map e_i64_i64 x2) 0 0 false)], .call ⟨true, []⟩ (.bool x6) [], .rows (List.map e_i64_i64 x2), .d false, .d false, .d true, .rows (List.map e_i64_i64 x2)] [⟨(part_all e_i64_i64 (l := x2) (n := x2.length) rfl)⟩, ⟨(le_map e_i64_i64 (Nat.le_refl x2.length) : 0 + x2.length ≤ (List.map e_i64_i64 x2).length)⟩, ⟨c4⟩, ⟨(nF c3)⟩, ⟨(nF c2)⟩, ⟨(ok_wheel_Right k x1 x2 _ e1)⟩, ⟨(part_all e_i64_i64 (l := x2) (n := x2.length) rfl)⟩, ⟨(le_map e_i64_i64 (Nat.le_refl x2.length) : 0 + x2.length ≤ (List.map e_i64_i64 x2).length)⟩, ⟨(ok_slices_Clone k x2 _ e0)⟩] (by kernel_rfl)
        · rw [if_neg c4] at h
          replace c4 := eqf c4
          obtain ⟨x7, e5, h⟩ := Option.bind_eq_some_iff.1 h
          by_cases c6 : ltI x7 0 = true
          · rw [if_pos c6] at h
            by_cases c7 : ltI (nI x2.length) 1000 = true
            · rw [if_pos c7] at h
              obtain ⟨x8, e8, h⟩ := Option.bind_eq_some_iff.1 h
              obtain ⟨x9, e9, h⟩ := Option.bind_eq_some_iff.1 h
              obtain ⟨x10, e10, h⟩ := Option.bind_eq_some_iff.1 h
              obtain rfl := Option.some.inj h
              exact Tri.of (x := X11) mixed facts11 [.call ⟨true, []⟩ (.ref 2 0 0 0 x2.length .virt) [(.arr 2 (List.map e_i64_i64 x2) 0 0 false)], .call ⟨true, []⟩ (.bool x6) [], .rows (List.map e_i64_i64 x2), .d false, .d false, .d false, .call ⟨true, []⟩ (.int .i64 x7) [], .rows (List.map e_i64_i64 x2), .d true, .d true, .d true, .d true, .d true, .d false, .call ⟨true, []⟩ (.tup [(.agg [(.int .i64 x1), (.ref 2 0 0 0 x8.2.length .virt)]), (.int .i64 x8.1)]) [(.arr 2 (List.map e_i64_i64 x8.2) 0 0 false)], .rows (List.map e_i64_i64 x2), .call ⟨true, []⟩ (.tup [(.int .i64 x9.1), (.bool x9.2)]) [], .rows (List.map e_i64_i64 x8.2), .call ⟨false, []⟩ (.ref 2 0 1 0 x10.length .full) [(.arr 2 (List.map e_i64_i64 x10) 1 1 false), (.arr 2 (List.map e_i64_i64 [(x3, x4)]) 0 0 false)], .rows (List.map e_i64_i64 x10)] [⟨(part_all e_i64_i64 (l := x10) (n := x10.length) rfl)⟩, ⟨(le_map e_i64_i64 (Nat.le_refl x10.length) : 0 + x10.length ≤ (List.map e_i64_i64 x10).length)⟩, ⟨(ok_slices_Insert k x9.1 x8.2 [(x3, x4)] _ e10)⟩, ⟨(ok_slices_BinarySearchFunc k x8.2 x3 x4 _ e9)⟩, ⟨(part_all e_i64_i64 (l := x8.2) (n := x8.2.length) rfl)⟩, ⟨(le_map e_i64_i64 (Nat.le_refl x8.2.length) : 0 + x8.2.length ≤ (List.map e_i64_i64 x8.2).length)⟩, ⟨(ok_wheel_Stop_1 k x1 x2 x3 _ e8)⟩, ⟨(part_all e_i64_i64 (l := x2) (n := x2.length) rfl)⟩, ⟨(le_map e_i64_i64 (Nat.le_refl x2.length) : 0 + x2.length ≤ (List.map e_i64_i64 x2).length)⟩, ⟨(nF c7)⟩, ⟨c6⟩, ⟨c6⟩, ⟨c6⟩, ⟨c6⟩, ⟨c6⟩, ⟨(ok_wheel_Wheel_find k x1 x2 x3 _ e5)⟩, ⟨(part_all e_i64_i64 (l := x2) (n := x2.length) rfl)⟩, ⟨(le_map e_i64_i64 (Nat.le_refl x2.length) : 0 + x2.length ≤ (List.map e_i64_i64 x2).length)⟩, ⟨c4⟩, ⟨(nF c3)⟩, ⟨(nF c2)⟩, ⟨(ok_wheel_Right k x1 x2 _ e1)⟩, ⟨(part_all e_i64_i64 (l := x2) (n := x2.length) rfl)⟩, ⟨(le_map e_i64_i64 (Nat.le_refl x2.length) : 0 + x2.length ≤ (List.map e_i64_i64 x2).length)⟩, ⟨(ok_slices_Clone k x2 _ e0)⟩] (by kernel_rfl)
            · rw [if_neg c7] at h
              replace c7 := eqf c7
              obtain rfl := Option.some.inj h
              exact Tri.of (x := X11) mixed facts11 [.call ⟨true, []⟩ (.ref 2 0 0 0 x2.length .virt) [(.arr 2 (List.map e_i64_i64 x2) 0 0 false)], .call ⟨true, []⟩ (.bool x6) [], .rows (List.map e_i64_i64 x2), .d false, .d false, .d false, .call ⟨true, []⟩ (.int .i64 x7) [], .rows (List.map e_i64_i64 x2), .d true, .d true, .d true, .d true, .d true, .d true, .rows (List.map e_i64_i64 x2)] [⟨(part_all e_i64_i64 (l := x2) (n := x2.length) rfl)⟩, ⟨(le_map e_i64_i64 (Nat.le_refl x2.length) : 0 + x2.length ≤ (List.map e_i64_i64 x2).length)⟩, ⟨(nT c7)⟩, ⟨c6⟩, ⟨c6⟩, ⟨c6⟩, ⟨c6⟩, ⟨c6⟩, ⟨(ok_wheel_Wheel_find k x1 x2 x3 _ e5)⟩, ⟨(part_all e_i64_i64 (l := x2) (n := x2.length) rfl)⟩, ⟨(le_map e_i64_i64 (Nat.le_refl x2.length) : 0 + x2.length ≤ (List.map e_i64_i64 x2).length)⟩, ⟨c4⟩, ⟨(nF c3)⟩, ⟨(nF c2)⟩, ⟨(ok_wheel_Right k x1 x2 _ e1)⟩, ⟨(part_all e_i64_i64 (l := x2) (n := x2.length) rfl)⟩, ⟨(le_map e_i64_i64 (Nat.le_refl x2.length) : 0 + x2.length ≤ (List.map e_i64_i64 x2).length)⟩, ⟨(ok_slices_Clone k x2 _ e0)⟩] (by kernel_rfl)
          · rw [if_neg c6] at h
            replace c6 := eqf c6
            obtain ⟨x8, e7, h⟩ := Option.bind_eq_some_iff.1 h
            obtain ⟨x9, e8, h⟩ := Option.bind_eq_some_iff.1 h
            obtain ⟨x10, e9, h⟩ := Option.bind_eq_some_iff.1 h
            obtain rfl := Option.some.inj h
            exact Tri.of (x := X11) mixed facts11 [.call ⟨true, []⟩ (.ref 2 0 0 0 x2.length .virt) [(.arr 2 (List.map e_i64_i64 x2) 0 0 false)], .call ⟨true, []⟩ (.bool x6) [], .rows (List.map e_i64_i64 x2), .d false, .d false, .d false, .call ⟨true, []⟩ (.int .i64 x7) [], .rows (List.map e_i64_i64 x2), .d false, .d false, .d false, .d false, .d false, .d false, .call ⟨true, []⟩ (.tup [(.agg [(.int .i64 x1), (.ref 2 0 0 0 x8.2.length .virt)]), (.int .i64 x8.1)]) [(.arr 2 (List.map e_i64_i64 x8.2) 0 0 false)], .rows (List.map e_i64_i64 x2), .call ⟨true, []⟩ (.tup [(.int .i64 x9.1), (.bool x9.2)]) [], .rows (List.map e_i64_i64 x8.2), .call ⟨false, []⟩ (.ref 2 0 1 0 x10.length .full) [(.arr 2 (List.map e_i64_i64 x10) 1 1 false), (.arr 2 (List.map e_i64_i64 [(x3, x4)]) 0 0 false)], .rows (List.map e_i64_i64 x10)] [⟨(part_all e_i64_i64 (l := x10) (n := x10.length) rfl)⟩, ⟨(le_map e_i64_i64 (Nat.le_refl x10.length) : 0 + x10.length ≤ (List.map e_i64_i64 x10).length)⟩, ⟨(ok_slices_Insert k x9.1 x8.2 [(x3, x4)] _ e9)⟩, ⟨(ok_slices_BinarySearchFunc k x8.2 x3 x4 _ e8)⟩, ⟨(part_all e_i64_i64 (l := x8.2) (n := x8.2.length) rfl)⟩, ⟨(le_map e_i64_i64 (Nat.le_refl x8.2.length) : 0 + x8.2.length ≤ (List.map e_i64_i64 x8.2).length)⟩, ⟨(ok_wheel_Stop_1 k x1 x2 x3 _ e7)⟩, ⟨(part_all e_i64_i64 (l := x2) (n := x2.length) rfl)⟩, ⟨(le_map e_i64_i64 (Nat.le_refl x2.length) : 0 + x2.length ≤ (List.map e_i64_i64 x2).length)⟩, ⟨(rfl : false = false)⟩, ⟨c6⟩, ⟨c6⟩, ⟨c6⟩, ⟨c6⟩, ⟨c6⟩, ⟨(ok_wheel_Wheel_find k x1 x2 x3 _ e5)⟩, ⟨(part_all e_i64_i64 (l := x2) (n := x2.length) rfl)⟩, ⟨(le_map e_i64_i64 (Nat.le_refl x2.length) : 0 + x2.length ≤ (List.map e_i64_i64 x2).length)⟩, ⟨c4⟩, ⟨(nF c3)⟩, ⟨(nF c2)⟩, ⟨(ok_wheel_Right k x1 x2 _ e1)⟩, ⟨(part_all e_i64_i64 (l := x2) (n := x2.length) rfl)⟩, ⟨(le_map e_i64_i64 (Nat.le_refl x2.length) : 0 + x2.length ≤ (List.map e_i64_i64 x2).length)⟩, ⟨(ok_slices_Clone k x2 _ e0)⟩] (by kernel_rfl)
      · rw [if_neg c3] at h
        replace c3 := eqf c3
        obtain rfl := Option.some.inj h
        exact Tri.of (x := X11) mixed facts11 [.call ⟨true, []⟩ (.ref 2 0 0 0 x2.length .virt) [(.arr 2 (List.map e_i64_i64 x2) 0 0 false)], .call ⟨true, []⟩ (.bool x6) [], .rows (List.map e_i64_i64 x2), .d false, .d true, .rows (List.map e_i64_i64 x2)] [⟨(part_all e_i64_i64 (l := x2) (n := x2.length) rfl)⟩, ⟨(le_map e_i64_i64 (Nat.le_refl x2.length) : 0 + x2.length ≤ (List.map e_i64_i64 x2).length)⟩, ⟨(nT c3)⟩, ⟨(nF c2)⟩, ⟨(ok_wheel_Right k x1 x2 _ e1)⟩, ⟨(part_all e_i64_i64 (l := x2) (n := x2.length) rfl)⟩, ⟨(le_map e_i64_i64 (Nat.le_refl x2.length) : 0 + x2.length ≤ (List.map e_i64_i64 x2).length)⟩, ⟨(ok_slices_Clone k x2 _ e0)⟩] (by kernel_rfl)
    · rw [if_neg c2] at h
      replace c2 := eqf c2
      obtain rfl := Option.some.inj h
      exact Tri.of (x := X11) mixed facts11 [.call ⟨true, []⟩ (.ref 2 0 0 0 x2.length .virt) [(.arr 2 (List.map e_i64_i64 x2) 0 0 false)], .call ⟨true, []⟩ (.bool x6) [], .rows (List.map e_i64_i64 x2), .d true, .rows (List.map e_i64_i64 x2)] [⟨(part_all e_i64_i64 (l := x2) (n := x2.length) rfl)⟩, ⟨(le_map e_i64_i64 (Nat.le_refl x2.length) : 0 + x2.length ≤ (List.map e_i64_i64 x2).length)⟩, ⟨(nT c2)⟩, ⟨(ok_wheel_Right k x1 x2 _ e1)⟩, ⟨(part_all e_i64_i64 (l := x2) (n := x2.length) rfl)⟩, ⟨(le_map e_i64_i64 (Nat.le_refl x2.length) : 0 + x2.length ≤ (List.map e_i64_i64 x2).length)⟩, ⟨(ok_slices_Clone k x2 _ e0)⟩] (by kernel_rfl)
end Go.Ws

namespace Go.Ws
open Go.Proofs
set_option linter.unusedSimpArgs false
set_option linter.unusedVariables false
set_option maxRecDepth 1000000
set_option maxHeartbeats 4000000
theorem ok_slices_Clone_1 (k : Nat) (x1 : List (Int × Int)) (r : Unit) (h : slices_Clone_1 k x1 = some r) : Tri Try.prog 24 [(.sl 2 (List.map e_i64_i64 x1))] [] (.sl 2 (List.map e_i64_i64 x1)) [] := Tri.freeze (ok_slices_Clone k x1 r h) (by simp)
end Go.Ws

namespace Go.Ws
open Go.Proofs
set_option linter.unusedSimpArgs false
set_option linter.unusedVariables false
set_option maxRecDepth 1000000
set_option maxHeartbeats 4000000
noncomputable def X16 : Ctx := ⟨Try.f16, [], true⟩
noncomputable def L16_0 : Code := at_ Try.f16 [1, 1, 1, 1, 1, 0, 4, 5]
def S16_0 (x1 : Int) (x3 : Int) (v16001_1 : List (Int × Int)) (v16001_2 : List Int) : St := ⟨mkT 61 [(2, (.hp 0 0)), (4, (.hp 1 0)), (7, (.ref 1 2 0 0 v16001_2.length .virt))], [(.row [(.int .i64 (iadd .i64 x1 x3)), (.sl 2 (List.map e_i64_i64 v16001_1))]), (.row [(.int .i64 0), .nils]), (.arr 1 (List.map e_i64 v16001_2) 0 0 false)]⟩
def E16_0_1 (x1 : Int) (x3 : Int) (v16002_1 : List (Int × Int)) (v16002_2 : List Int) : St := ⟨mkT 61 [(2, (.hp 0 0)), (4, (.hp 1 0)), (7, (.ref 1 2 0 0 v16002_2.length .virt))], [(.row [(.int .i64 (iadd .i64 x1 x3)), (.sl 2 (List.map e_i64_i64 v16002_1))]), (.row [(.int .i64 0), .nils]), (.arr 1 (List.map e_i64 v16002_2) 0 0 false)]⟩
def O16_0 (x1 : Int) (x3 : Int) (y : ((List (Int × Int)) × (List Int))) : GX := .st (.exit 1) (E16_0_1 x1 x3 y.1 y.2)
theorem ok_wheel_Tick_l0 (x1 : Int) (x3 : Int) (y : ((List (Int × Int)) × (List Int))) : ∀ (k : Nat) (v16001_1 : List (Int × Int)) (v16001_2 : List Int), wheel_Tick_l0 k x1 x3 v16001_1 v16001_2 = some y → LT Try.prog X16 L16_0 (S16_0 x1 x3 v16001_1 v16001_2) (O16_0 x1 x3 y)
  | 0, v16001_1, v16001_2, h => by cases h
  | k + 1, v16001_1, v16001_2, h => by
    rw [wheel_Tick_l0] at h
    by_cases cL0 : ltI 0 (nI v16001_1.length) = true
    · rw [if_pos cL0] at h
      by_cases cL1 : inI 0 v16001_1.length = true
      · rw [if_pos cL1] at h
        obtain ⟨v16000_1, eL2, h⟩ := Option.bind_eq_some_iff.1 h
        by_cases cL3 : ltI (iadd .i64 x1 x3) v16000_1.2 = true
        · rw [if_pos cL3] at h
          obtain rfl := Option.some.inj h
          show LT _ _ _ _ (.st (.exit 1) (E16_0_1 x1 x3 v16001_1 v16001_2))
          exact LT.done mixed (hs := ⟨[], [], false, [], []⟩) (es := (some ⟨[(2, []), (4, []), (7, [])], [⟨.tmp 2, [], none⟩, ⟨.tmp 4, [], none⟩, ⟨.tmp 7, [], none⟩], false, [], []⟩)) [.n v16001_1.length, .d true, .d true, .d true, .n v16001_1.length, .d true, .d true, .row [(.int .i64 v16000_1.2)], .d true, .d true, .d true, .d true, .d false] [⟨(nF cL3)⟩, ⟨cL0⟩, ⟨cL0⟩, ⟨cL0⟩, ⟨cL0⟩, ⟨(cells_map (e := e_i64_i64) eL2 2 1 1 (by decide))⟩, ⟨cL0⟩, ⟨cL0⟩, ⟨cL1⟩, ⟨(len_map e_i64_i64 v16001_1)⟩, ⟨cL0⟩, ⟨cL0⟩, ⟨cL0⟩, ⟨(len_map e_i64_i64 v16001_1)⟩] (by kernel_rfl) (fun s h => by cases h)
        · rw [if_neg cL3] at h
          replace cL3 := eqf cL3
          by_cases cL4 : roomI (((v16001_2 ++ [v16000_1.1]).length) * 8) = true
          · rw [if_pos cL4] at h
            by_cases cL5 : leI 1 v16001_1.length = true
            · rw [if_pos cL5] at h
              exact LT.next mixed (hs := ⟨[(2, []), (4, []), (7, [])], [⟨.tmp 2, [], none⟩, ⟨.tmp 4, [], none⟩, ⟨.tmp 7, [], some 1⟩], false, [], []⟩) (es := none) [.n v16001_1.length, .d true, .d true, .d true, .n v16001_1.length, .d true, .d true, .row [(.int .i64 v16000_1.2)], .d true, .d true, .d true, .d true, .d true, .n v16001_1.length, .row [(.int .i64 v16000_1.1)], .rows (List.map e_i64 [v16000_1.1]), .n ((v16001_2 ++ [v16000_1.1]).length), .n v16001_2.length, .d true, .rows (List.map e_i64 (v16001_2 ++ [v16000_1.1])), .n v16001_1.length, .rows (List.map e_i64_i64 (List.drop 1 v16001_1)), .n ((v16001_2 ++ [v16000_1.1]).length), .rows (List.map e_i64 (v16001_2 ++ [v16000_1.1]))] [⟨(take_all e_i64 (l := (v16001_2 ++ [v16000_1.1])) (n := ((v16001_2 ++ [v16000_1.1]).length)) rfl)⟩, ⟨(rfl : (v16001_2 ++ [v16000_1.1]).length = (v16001_2 ++ [v16000_1.1]).length)⟩, ⟨(zle ((v16001_2 ++ [v16000_1.1]).length))⟩, ⟨(cut_drop e_i64_i64 (l := v16001_1) (n := v16001_1.length) rfl 1)⟩, ⟨cL5⟩, ⟨(len_map e_i64_i64 v16001_1)⟩, ⟨(app_map e_i64 v16001_2 [v16000_1.1])⟩, ⟨(eqN_self v16001_2.length)⟩, ⟨(len_map e_i64 v16001_2)⟩, ⟨cL4⟩, ⟨(by simp only [List.length_append, List.length_cons, List.length_nil, List.length_take, List.length_drop, List.length_set, List.length_replicate, List.length_map, List.map_nil, List.map_cons] <;> omega : v16001_2.length + (List.map e_i64 [v16000_1.1]).length = (v16001_2 ++ [v16000_1.1]).length)⟩, ⟨(part_all e_i64 (l := [v16000_1.1]) (n := 1) rfl)⟩, ⟨(le_map e_i64 (Nat.le_refl 1) : 0 + 1 ≤ (List.map e_i64 [v16000_1.1]).length)⟩, ⟨(cells_map (e := e_i64_i64) eL2 2 0 1 (by decide))⟩, ⟨cL1⟩, ⟨(len_map e_i64_i64 v16001_1)⟩, ⟨(nT cL3)⟩, ⟨cL0⟩, ⟨cL0⟩, ⟨cL0⟩, ⟨cL0⟩, ⟨(cells_map (e := e_i64_i64) eL2 2 1 1 (by decide))⟩, ⟨cL0⟩, ⟨cL0⟩, ⟨cL1⟩, ⟨(len_map e_i64_i64 v16001_1)⟩, ⟨cL0⟩, ⟨cL0⟩, ⟨cL0⟩, ⟨(len_map e_i64_i64 v16001_1)⟩] (by kernel_rfl) (ok_wheel_Tick_l0 x1 x3 y k (List.drop 1 v16001_1) (v16001_2 ++ [v16000_1.1]) h)
            · rw [if_neg cL5] at h
              replace cL5 := eqf cL5
              cases h
          · rw [if_neg cL4] at h
            replace cL4 := eqf cL4
            cases h
      · rw [if_neg cL1] at h
        replace cL1 := eqf cL1
        cases h
    · rw [if_neg cL0] at h
      replace cL0 := eqf cL0
      obtain rfl := Option.some.inj h
      show LT _ _ _ _ (.st (.exit 1) (E16_0_1 x1 x3 v16001_1 v16001_2))
      exact LT.done mixed (hs := ⟨[], [], false, [], []⟩) (es := (some ⟨[(2, []), (4, []), (7, [])], [⟨.tmp 2, [], none⟩, ⟨.tmp 4, [], none⟩, ⟨.tmp 7, [], none⟩], false, [], []⟩)) [.n v16001_1.length, .d false, .d false, .d false, .d false, .d false, .d false, .d false, .d false, .d false, .d false] [⟨(rfl : false = false)⟩, ⟨cL0⟩, ⟨cL0⟩, ⟨cL0⟩, ⟨cL0⟩, ⟨cL0⟩, ⟨cL0⟩, ⟨cL0⟩, ⟨cL0⟩, ⟨cL0⟩, ⟨(len_map e_i64_i64 v16001_1)⟩] (by kernel_rfl) (fun s h => by cases h)
theorem ok_wheel_Tick (k : Nat) (x1 : Int) (x2 : List (Int × Int)) (x3 : Int) (r : Int × (List (Int × Int)) × (List Int) × Int) (h : wheel_Tick k x1 x2 x3 = some r) : Tri Try.prog 16 [(.agg [(.int .i64 x1), (.sl 2 (List.map e_i64_i64 x2))]), (.int .i64 x3)] [] (.tup [(.agg [(.int .i64 r.1), (.sl 2 (List.map e_i64_i64 r.2.1))]), (.sl 1 (List.map e_i64 r.2.2.1)), (.int .i64 r.2.2.2)]) [] := by
    unfold wheel_Tick at h
    obtain ⟨x4, e0, h⟩ := Option.bind_eq_some_iff.1 h
    obtain ⟨x5, e1, h⟩ := Option.bind_eq_some_iff.1 h
    by_cases c2 : x5 = true
    · rw [if_pos c2] at h
      by_cases c3 : ltI x3 0 = true
      · rw [if_pos c3] at h
        obtain rfl := Option.some.inj h
        exact Tri.of (x := X16) mixed facts16 [.call ⟨true, []⟩ (.sl 2 (List.map e_i64_i64 x2)) [], .call ⟨true, []⟩ (.bool x5) [], .d false, .d false, .d false, .d true, .norm 0 ⟨[(4, []), (5, [(0, 1)]), (6, [])], [⟨.tmp 4, [], none⟩], false, [], []⟩] [⟨c3⟩, ⟨(nF c2)⟩, ⟨(nF c2)⟩, ⟨(nF c2)⟩, ⟨(ok_wheel_Right k x1 x2 _ e1)⟩, ⟨(ok_slices_Clone_1 k x2 _ e0)⟩] (by kernel_rfl)
      · rw [if_neg c3] at h
        replace c3 := eqf c3
        by_cases c4 : ltI (isub .i64 1099511627776 x1) x3 = true
        · rw [if_pos c4] at h
          obtain rfl := Option.some.inj h
          exact Tri.of (x := X16) mixed facts16 [.call ⟨true, []⟩ (.sl 2 (List.map e_i64_i64 x2)) [], .call ⟨true, []⟩ (.bool x5) [], .d false, .d false, .d false, .d false, .d true, .norm 0 ⟨[(4, []), (5, [(0, 1)]), (6, [])], [⟨.tmp 4, [], none⟩], false, [], []⟩] [⟨c4⟩, ⟨c3⟩, ⟨(nF c2)⟩, ⟨(nF c2)⟩, ⟨(nF c2)⟩, ⟨(ok_wheel_Right k x1 x2 _ e1)⟩, ⟨(ok_slices_Clone_1 k x2 _ e0)⟩] (by kernel_rfl)
        · rw [if_neg c4] at h
          replace c4 := eqf c4
          obtain ⟨x7, e5, h⟩ := Option.bind_eq_some_iff.1 h
          obtain rfl := Option.some.inj h
          exact Tri.of (x := X16) mixed facts16 [.call ⟨true, []⟩ (.sl 2 (List.map e_i64_i64 x2)) [], .call ⟨true, []⟩ (.bool x5) [], .d false, .d false, .d false, .d false, .d false, .norm 5 ⟨[(2, []), (4, []), (7, [])], [⟨.tmp 2, [], none⟩, ⟨.tmp 4, [], none⟩, ⟨.tmp 7, [], some 1⟩], false, [], []⟩, .n 0, .rows (List.map e_i64 []), .out (.st .normal (E16_0_1 x1 x3 x7.1 x7.2)), .rows (List.map e_i64 x7.2)] [⟨(part_all e_i64 (l := x7.2) (n := x7.2.length) rfl)⟩, ⟨(le_map e_i64 (Nat.le_refl x7.2.length) : 0 + x7.2.length ≤ (List.map e_i64 x7.2).length)⟩, ⟨(LT.block (ok_wheel_Tick_l0 x1 x3 _ k x2 [] e5))⟩, ⟨(take_all e_i64 (l := []) (n := 0) rfl)⟩, ⟨(rfl : 0 = 0)⟩, ⟨(zle 0)⟩, ⟨c4⟩, ⟨c3⟩, ⟨(nF c2)⟩, ⟨(nF c2)⟩, ⟨(nF c2)⟩, ⟨(ok_wheel_Right k x1 x2 _ e1)⟩, ⟨(ok_slices_Clone_1 k x2 _ e0)⟩] (by kernel_rfl)
    · rw [if_neg c2] at h
      replace c2 := eqf c2
      obtain rfl := Option.some.inj h
      exact Tri.of (x := X16) mixed facts16 [.call ⟨true, []⟩ (.sl 2 (List.map e_i64_i64 x2)) [], .call ⟨true, []⟩ (.bool x5) [], .d true, .d true, .d true, .d true, .norm 0 ⟨[(4, []), (5, [(0, 1)]), (6, [])], [⟨.tmp 4, [], none⟩], false, [], []⟩] [⟨(rfl : true = true)⟩, ⟨(nT c2)⟩, ⟨(nT c2)⟩, ⟨(nT c2)⟩, ⟨(ok_wheel_Right k x1 x2 _ e1)⟩, ⟨(ok_slices_Clone_1 k x2 _ e0)⟩] (by kernel_rfl)
end Go.Ws

namespace Go.Ws
open Go.Proofs
set_option linter.unusedSimpArgs false
set_option linter.unusedVariables false
set_option maxRecDepth 1000000
set_option maxHeartbeats 4000000
noncomputable def X18 : Ctx := ⟨Try.f18, [], true⟩
theorem ok_wheel_Next (k : Nat) (x1 : Int) (x2 : List (Int × Int)) (r : Int × Bool) (h : wheel_Next k x1 x2 = some r) : Tri Try.prog 18 [(.agg [(.int .i64 x1), (.sl 2 (List.map e_i64_i64 x2))])] [] (.tup [(.int .i64 r.1), (.bool r.2)]) [] := by
    unfold wheel_Next at h
    obtain ⟨x3, e0, h⟩ := Option.bind_eq_some_iff.1 h
    by_cases c1 : x3 = true
    · rw [if_pos c1] at h
      by_cases c2 : eqI (nI x2.length) 0 = true
      · rw [if_pos c2] at h
        obtain rfl := Option.some.inj h
        exact Tri.of (x := X18) mixed facts18 [.call ⟨true, []⟩ (.bool x3) [], .d false, .d false, .d false, .n x2.length, .d false, .d false, .d true] [⟨c2⟩, ⟨(nF c1)⟩, ⟨(nF c1)⟩, ⟨(len_map e_i64_i64 x2)⟩, ⟨(nF c1)⟩, ⟨(nF c1)⟩, ⟨(nF c1)⟩, ⟨(ok_wheel_Right k x1 x2 _ e0)⟩] (by kernel_rfl)
      · rw [if_neg c2] at h
        replace c2 := eqf c2
        by_cases c3 : inI 0 x2.length = true
        · rw [if_pos c3] at h
          obtain ⟨x4, e4, h⟩ := Option.bind_eq_some_iff.1 h
          obtain rfl := Option.some.inj h
          exact Tri.of (x := X18) mixed facts18 [.call ⟨true, []⟩ (.bool x3) [], .d false, .d false, .d false, .n x2.length, .d false, .d false, .d false, .n x2.length, .row [(.int .i64 x4.2)]] [⟨(cells_map (e := e_i64_i64) e4 2 1 1 (by decide))⟩, ⟨c3⟩, ⟨(len_map e_i64_i64 x2)⟩, ⟨c2⟩, ⟨(nF c1)⟩, ⟨(nF c1)⟩, ⟨(len_map e_i64_i64 x2)⟩, ⟨(nF c1)⟩, ⟨(nF c1)⟩, ⟨(nF c1)⟩, ⟨(ok_wheel_Right k x1 x2 _ e0)⟩] (by kernel_rfl)
        · rw [if_neg c3] at h
          replace c3 := eqf c3
          cases h
    · rw [if_neg c1] at h
      replace c1 := eqf c1
      obtain rfl := Option.some.inj h
      exact Tri.of (x := X18) mixed facts18 [.call ⟨true, []⟩ (.bool x3) [], .d true, .d true, .d true, .d true, .d true, .d true] [⟨(rfl : true = true)⟩, ⟨(nT c1)⟩, ⟨(nT c1)⟩, ⟨(nT c1)⟩, ⟨(nT c1)⟩, ⟨(nT c1)⟩, ⟨(ok_wheel_Right k x1 x2 _ e0)⟩] (by kernel_rfl)
end Go.Ws

namespace Go.Ws
open Go.Proofs
set_option linter.unusedSimpArgs false
set_option linter.unusedVariables false
set_option maxRecDepth 1000000
set_option maxHeartbeats 4000000
noncomputable def X10 : Ctx := ⟨Try.f10, [], true⟩
theorem ok_law06_alive (k : Nat) (r : Bool) (h : law06_alive k = some r) : Tri Try.prog 10 [] [] (.bool r) [] := by
    unfold law06_alive at h
    obtain ⟨x1, e0, h⟩ := Option.bind_eq_some_iff.1 h
    obtain ⟨x2, e1, h⟩ := Option.bind_eq_some_iff.1 h
    obtain ⟨x3, e2, h⟩ := Option.bind_eq_some_iff.1 h
    obtain ⟨x4, e3, h⟩ := Option.bind_eq_some_iff.1 h
    obtain ⟨x5, e4, h⟩ := Option.bind_eq_some_iff.1 h
    obtain ⟨x6, e5, h⟩ := Option.bind_eq_some_iff.1 h
    by_cases c6 : eqI x1.2.2 0 = true
    · rw [if_pos c6] at h
      by_cases c7 : eqI x2.2.2 0 = true
      · rw [if_pos c7] at h
        by_cases c8 : eqI x3.1 3 = true
        · rw [if_pos c8] at h
          by_cases c9 : x3.2 = true
          · rw [if_pos c9] at h
            obtain ⟨x7, e10, h⟩ := Option.bind_eq_some_iff.1 h
            by_cases c11 : x7 = true
            · rw [if_pos c11] at h
              by_cases c12 : eqI x4.2.2.2 0 = true
              · rw [if_pos c12] at h
                obtain ⟨x8, e13, h⟩ := Option.bind_eq_some_iff.1 h
                by_cases c14 : x8 = true
                · rw [if_pos c14] at h
                  by_cases c15 : eqI x5.2.2.2 0 = true
                  · rw [if_pos c15] at h
                    by_cases c16 : eqI x6.2.2 10 = true
                    · rw [if_pos c16] at h
                      obtain ⟨x9, e17, h⟩ := Option.bind_eq_some_iff.1 h
                      obtain rfl := Option.some.inj h
                      exact Tri.of (x := X10) mixed facts10 [.call ⟨true, [[(1, 2)]]⟩ (.tup [(.agg [(.int .i64 x1.1), (.sl 2 (List.map e_i64_i64 x1.2.1))]), (.int .i64 x1.2.2)]) [], .call ⟨true, []⟩ (.tup [(.agg [(.int .i64 x2.1), (.sl 2 (List.map e_i64_i64 x2.2.1))]), (.int .i64 x2.2.2)]) [], .call ⟨true, []⟩ (.tup [(.int .i64 x3.1), (.bool x3.2)]) [], .call ⟨true, []⟩ (.tup [(.agg [(.int .i64 x4.1), (.sl 2 (List.map e_i64_i64 x4.2.1))]), (.sl 1 (List.map e_i64 x4.2.2.1)), (.int .i64 x4.2.2.2)]) [], .call ⟨true, []⟩ (.tup [(.agg [(.int .i64 x5.1), (.sl 2 (List.map e_i64_i64 x5.2.1))]), (.sl 1 (List.map e_i64 x5.2.2.1)), (.int .i64 x5.2.2.2)]) [], .call ⟨true, []⟩ (.tup [(.agg [(.int .i64 x6.1), (.sl 2 (List.map e_i64_i64 x6.2.1))]), (.int .i64 x6.2.2)]) [], .d true, .d true, .d true, .d true, .d true, .d true, .d true, .d true, .d true, .d true, .d true, .call ⟨true, []⟩ (.bool x7) [], .rows (List.map e_i64 [8]), .d true, .d true, .d true, .d true, .d true, .d true, .d true, .call ⟨true, []⟩ (.bool x8) [], .rows (List.map e_i64 [7]), .d true, .d true, .d true, .d true, .d true, .d true, .d true, .d true, .d true, .call ⟨true, []⟩ (.bool x9) [], .d true] [⟨c16⟩, ⟨(ok_wheel_Right k x2.1 x2.2.1 _ e17)⟩, ⟨c16⟩, ⟨c16⟩, ⟨c15⟩, ⟨c15⟩, ⟨c15⟩, ⟨c14⟩, ⟨c14⟩, ⟨c14⟩, ⟨c12⟩, ⟨(ok_law06_same k x5.2.2.1 [7] _ e13)⟩, ⟨(part_all e_i64 (l := [7]) (n := 1) rfl)⟩, ⟨(le_map e_i64 (Nat.le_refl 1) : 0 + 1 ≤ (List.map e_i64 [7]).length)⟩, ⟨c12⟩, ⟨c12⟩, ⟨c12⟩, ⟨c11⟩, ⟨c11⟩, ⟨c11⟩, ⟨c9⟩, ⟨(ok_law06_same k x4.2.2.1 [8] _ e10)⟩, ⟨(part_all e_i64 (l := [8]) (n := 1) rfl)⟩, ⟨(le_map e_i64 (Nat.le_refl 1) : 0 + 1 ≤ (List.map e_i64 [8]).length)⟩, ⟨c9⟩, ⟨c9⟩, ⟨c9⟩, ⟨c8⟩, ⟨c8⟩, ⟨c7⟩, ⟨c7⟩, ⟨c7⟩, ⟨c6⟩, ⟨c6⟩, ⟨c6⟩, ⟨(ok_wheel_Set k x4.1 x4.2.1 9 4 _ e5)⟩, ⟨(ok_wheel_Tick k x4.1 x4.2.1 1 _ e4)⟩, ⟨(ok_wheel_Tick k x2.1 x2.2.1 4 _ e3)⟩, ⟨(ok_wheel_Next k x2.1 x2.2.1 _ e2)⟩, ⟨(ok_wheel_Set k x1.1 x1.2.1 8 3 _ e1)⟩, ⟨(ok_wheel_Set k 0 [] 7 5 _ e0)⟩] (by kernel_rfl)
                    · rw [if_neg c16] at h
                      replace c16 := eqf c16
                      obtain rfl := Option.some.inj h
                      exact Tri.of (x := X10) mixed facts10 [.call ⟨true, [[(1, 2)]]⟩ (.tup [(.agg [(.int .i64 x1.1), (.sl 2 (List.map e_i64_i64 x1.2.1))]), (.int .i64 x1.2.2)]) [], .call ⟨true, []⟩ (.tup [(.agg [(.int .i64 x2.1), (.sl 2 (List.map e_i64_i64 x2.2.1))]), (.int .i64 x2.2.2)]) [], .call ⟨true, []⟩ (.tup [(.int .i64 x3.1), (.bool x3.2)]) [], .call ⟨true, []⟩ (.tup [(.agg [(.int .i64 x4.1), (.sl 2 (List.map e_i64_i64 x4.2.1))]), (.sl 1 (List.map e_i64 x4.2.2.1)), (.int .i64 x4.2.2.2)]) [], .call ⟨true, []⟩ (.tup [(.agg [(.int .i64 x5.1), (.sl 2 (List.map e_i64_i64 x5.2.1))]), (.sl 1 (List.map e_i64 x5.2.2.1)), (.int .i64 x5.2.2.2)]) [], .call ⟨true, []⟩ (.tup [(.agg [(.int .i64 x6.1), (.sl 2 (List.map e_i64_i64 x6.2.1))]), (.int .i64 x6.2.2)]) [], .d true, .d true, .d true, .d true, .d true, .d true, .d true, .d true, .d true, .d true, .d true, .call ⟨true, []⟩ (.bool x7) [], .rows (List.map e_i64 [8]), .d true, .d true, .d true, .d true, .d true, .d true, .d true, .call ⟨true, []⟩ (.bool x8) [], .rows (List.map e_i64 [7]), .d true, .d true, .d true, .d true, .d true, .d true, .d true, .d false, .d false, .d false] [⟨c16⟩, ⟨c16⟩, ⟨c16⟩, ⟨c15⟩, ⟨c15⟩, ⟨c15⟩, ⟨c14⟩, ⟨c14⟩, ⟨c14⟩, ⟨c12⟩, ⟨(ok_law06_same k x5.2.2.1 [7] _ e13)⟩, ⟨(part_all e_i64 (l := [7]) (n := 1) rfl)⟩, ⟨(le_map e_i64 (Nat.le_refl 1) : 0 + 1 ≤ (List.map e_i64 [7]).length)⟩, ⟨c12⟩, ⟨c12⟩, ⟨c12⟩, ⟨c11⟩, ⟨c11⟩, ⟨c11⟩, ⟨c9⟩, ⟨(ok_law06_same k x4.2.2.1 [8] _ e10)⟩, ⟨(part_all e_i64 (l := [8]) (n := 1) rfl)⟩, ⟨(le_map e_i64 (Nat.le_refl 1) : 0 + 1 ≤ (List.map e_i64 [8]).length)⟩, ⟨c9⟩, ⟨c9⟩, ⟨c9⟩, ⟨c8⟩, ⟨c8⟩, ⟨c7⟩, ⟨c7⟩, ⟨c7⟩, ⟨c6⟩, ⟨c6⟩, ⟨c6⟩, ⟨(ok_wheel_Set k x4.1 x4.2.1 9 4 _ e5)⟩, ⟨(ok_wheel_Tick k x4.1 x4.2.1 1 _ e4)⟩, ⟨(ok_wheel_Tick k x2.1 x2.2.1 4 _ e3)⟩, ⟨(ok_wheel_Next k x2.1 x2.2.1 _ e2)⟩, ⟨(ok_wheel_Set k x1.1 x1.2.1 8 3 _ e1)⟩, ⟨(ok_wheel_Set k 0 [] 7 5 _ e0)⟩] (by kernel_rfl)
                  · rw [if_neg c15] at h
                    replace c15 := eqf c15
                    obtain rfl := Option.some.inj h
                    exact Tri.of (x := X10) mixed facts10 [.call ⟨true, [[(1, 2)]]⟩ (.tup [(.agg [(.int .i64 x1.1), (.sl 2 (List.map e_i64_i64 x1.2.1))]), (.int .i64 x1.2.2)]) [], .call ⟨true, []⟩ (.tup [(.agg [(.int .i64 x2.1), (.sl 2 (List.map e_i64_i64 x2.2.1))]), (.int .i64 x2.2.2)]) [], .call ⟨true, []⟩ (.tup [(.int .i64 x3.1), (.bool x3.2)]) [], .call ⟨true, []⟩ (.tup [(.agg [(.int .i64 x4.1), (.sl 2 (List.map e_i64_i64 x4.2.1))]), (.sl 1 (List.map e_i64 x4.2.2.1)), (.int .i64 x4.2.2.2)]) [], .call ⟨true, []⟩ (.tup [(.agg [(.int .i64 x5.1), (.sl 2 (List.map e_i64_i64 x5.2.1))]), (.sl 1 (List.map e_i64 x5.2.2.1)), (.int .i64 x5.2.2.2)]) [], .call ⟨true, []⟩ (.tup [(.agg [(.int .i64 x6.1), (.sl 2 (List.map e_i64_i64 x6.2.1))]), (.int .i64 x6.2.2)]) [], .d true, .d true, .d true, .d true, .d true, .d true, .d true, .d true, .d true, .d true, .d true, .call ⟨true, []⟩ (.bool x7) [], .rows (List.map e_i64 [8]), .d true, .d true, .d true, .d true, .d true, .d true, .d true, .call ⟨true, []⟩ (.bool x8) [], .rows (List.map e_i64 [7]), .d true, .d true, .d true, .d true, .d false, .d false, .d false, .d false, .d false, .d false] [⟨(rfl : false = false)⟩, ⟨(rfl : false = false)⟩, ⟨(rfl : false = false)⟩, ⟨c15⟩, ⟨c15⟩, ⟨c15⟩, ⟨c14⟩, ⟨c14⟩, ⟨c14⟩, ⟨c12⟩, ⟨(ok_law06_same k x5.2.2.1 [7] _ e13)⟩, ⟨(part_all e_i64 (l := [7]) (n := 1) rfl)⟩, ⟨(le_map e_i64 (Nat.le_refl 1) : 0 + 1 ≤ (List.map e_i64 [7]).length)⟩, ⟨c12⟩, ⟨c12⟩, ⟨c12⟩, ⟨c11⟩, ⟨c11⟩, ⟨c11⟩, ⟨c9⟩, ⟨(ok_law06_same k x4.2.2.1 [8] _ e10)⟩, ⟨(part_all e_i64 (l := [8]) (n := 1) rfl)⟩, ⟨(le_map e_i64 (Nat.le_refl 1) : 0 + 1 ≤ (List.map e_i64 [8]).length)⟩, ⟨c9⟩, ⟨c9⟩, ⟨c9⟩, ⟨c8⟩, ⟨c8⟩, ⟨c7⟩, ⟨c7⟩, ⟨c7⟩, ⟨c6⟩, ⟨c6⟩, ⟨c6⟩, ⟨(ok_wheel_Set k x4.1 x4.2.1 9 4 _ e5)⟩, ⟨(ok_wheel_Tick k x4.1 x4.2.1 1 _ e4)⟩, ⟨(ok_wheel_Tick k x2.1 x2.2.1 4 _ e3)⟩, ⟨(ok_wheel_Next k x2.1 x2.2.1 _ e2)⟩, ⟨(ok_wheel_Set k x1.1 x1.2.1 8 3 _ e1)⟩, ⟨(ok_wheel_Set k 0 [] 7 5 _ e0)⟩] (by kernel_rfl)
                · rw [if_neg c14] at h
                  replace c14 := eqf c14
                  obtain rfl := Option.some.inj h
                  exact Tri.of (x := X10) mixed facts10 [.call ⟨true, [[(1, 2)]]⟩ (.tup [(.agg [(.int .i64 x1.1), (.sl 2 (List.map e_i64_i64 x1.2.1))]), (.int .i64 x1.2.2)]) [], .call ⟨true, []⟩ (.tup [(.agg [(.int .i64 x2.1), (.sl 2 (List.map e_i64_i64 x2.2.1))]), (.int .i64 x2.2.2)]) [], .call ⟨true, []⟩ (.tup [(.int .i64 x3.1), (.bool x3.2)]) [], .call ⟨true, []⟩ (.tup [(.agg [(.int .i64 x4.1), (.sl 2 (List.map e_i64_i64 x4.2.1))]), (.sl 1 (List.map e_i64 x4.2.2.1)), (.int .i64 x4.2.2.2)]) [], .call ⟨true, []⟩ (.tup [(.agg [(.int .i64 x5.1), (.sl 2 (List.map e_i64_i64 x5.2.1))]), (.sl 1 (List.map e_i64 x5.2.2.1)), (.int .i64 x5.2.2.2)]) [], .call ⟨true, []⟩ (.tup [(.agg [(.int .i64 x6.1), (.sl 2 (List.map e_i64_i64 x6.2.1))]), (.int .i64 x6.2.2)]) [], .d true, .d true, .d true, .d true, .d true, .d true, .d true, .d true, .d true, .d true, .d true, .call ⟨true, []⟩ (.bool x7) [], .rows (List.map e_i64 [8]), .d true, .d true, .d true, .d true, .d true, .d true, .d true, .call ⟨true, []⟩ (.bool x8) [], .rows (List.map e_i64 [7]), .d true, .d false, .d false, .d false, .d false, .d false, .d false, .d false, .d false, .d false] [⟨(rfl : false = false)⟩, ⟨(rfl : false = false)⟩, ⟨(rfl : false = false)⟩, ⟨(rfl : false = false)⟩, ⟨(rfl : false = false)⟩, ⟨(rfl : false = false)⟩, ⟨c14⟩, ⟨c14⟩, ⟨c14⟩, ⟨c12⟩, ⟨(ok_law06_same k x5.2.2.1 [7] _ e13)⟩, ⟨(part_all e_i64 (l := [7]) (n := 1) rfl)⟩, ⟨(le_map e_i64 (Nat.le_refl 1) : 0 + 1 ≤ (List.map e_i64 [7]).length)⟩, ⟨c12⟩, ⟨c12⟩, ⟨c12⟩, ⟨c11⟩, ⟨c11⟩, ⟨c11⟩, ⟨c9⟩, ⟨(ok_law06_same k x4.2.2.1 [8] _ e10)⟩, ⟨(part_all e_i64 (l := [8]) (n := 1) rfl)⟩, ⟨(le_map e_i64 (Nat.le_refl 1) : 0 + 1 ≤ (List.map e_i64 [8]).length)⟩, ⟨c9⟩, ⟨c9⟩, ⟨c9⟩, ⟨c8⟩, ⟨c8⟩, ⟨c7⟩, ⟨c7⟩, ⟨c7⟩, ⟨c6⟩, ⟨c6⟩, ⟨c6⟩, ⟨(ok_wheel_Set k x4.1 x4.2.1 9 4 _ e5)⟩, ⟨(ok_wheel_Tick k x4.1 x4.2.1 1 _ e4)⟩, ⟨(ok_wheel_Tick k x2.1 x2.2.1 4 _ e3)⟩, ⟨(ok_wheel_Next k x2.1 x2.2.1 _ e2)⟩, ⟨(ok_wheel_Set k x1.1 x1.2.1 8 3 _ e1)⟩, ⟨(ok_wheel_Set k 0 [] 7 5 _ e0)⟩] (by kernel_rfl)
              · rw [if_neg c12] at h
                replace c12 := eqf c12
                obtain rfl := Option.some.inj h
                exact Tri.of (x := X10) mixed facts10 [.call ⟨true, [[(1, 2)]]⟩ (.tup [(.agg [(.int .i64 x1.1), (.sl 2 (List.map e_i64_i64 x1.2.1))]), (.int .i64 x1.2.2)]) [], .call ⟨true, []⟩ (.tup [(.agg [(.int .i64 x2.1), (.sl 2 (List.map e_i64_i64 x2.2.1))]), (.int .i64 x2.2.2)]) [], .call ⟨true, []⟩ (.tup [(.int .i64 x3.1), (.bool x3.2)]) [], .call ⟨true, []⟩ (.tup [(.agg [(.int .i64 x4.1), (.sl 2 (List.map e_i64_i64 x4.2.1))]), (.sl 1 (List.map e_i64 x4.2.2.1)), (.int .i64 x4.2.2.2)]) [], .call ⟨true, []⟩ (.tup [(.agg [(.int .i64 x5.1), (.sl 2 (List.map e_i64_i64 x5.2.1))]), (.sl 1 (List.map e_i64 x5.2.2.1)), (.int .i64 x5.2.2.2)]) [], .call ⟨true, []⟩ (.tup [(.agg [(.int .i64 x6.1), (.sl 2 (List.map e_i64_i64 x6.2.1))]), (.int .i64 x6.2.2)]) [], .d true, .d true, .d true, .d true, .d true, .d true, .d true, .d true, .d true, .d true, .d true, .call ⟨true, []⟩ (.bool x7) [], .rows (List.map e_i64 [8]), .d true, .d true, .d true, .d true, .d false, .d false, .d false, .d false, .d false, .d false, .d false, .d false, .d false, .d false, .d false, .d false, .d false] [⟨(rfl : false = false)⟩, ⟨(rfl : false = false)⟩, ⟨(rfl : false = false)⟩, ⟨(rfl : false = false)⟩, ⟨(rfl : false = false)⟩, ⟨(rfl : false = false)⟩, ⟨(rfl : false = false)⟩, ⟨(rfl : false = false)⟩, ⟨(rfl : false = false)⟩, ⟨c12⟩, ⟨c12⟩, ⟨c12⟩, ⟨c12⟩, ⟨c11⟩, ⟨c11⟩, ⟨c11⟩, ⟨c9⟩, ⟨(ok_law06_same k x4.2.2.1 [8] _ e10)⟩, ⟨(part_all e_i64 (l := [8]) (n := 1) rfl)⟩, ⟨(le_map e_i64 (Nat.le_refl 1) : 0 + 1 ≤ (List.map e_i64 [8]).length)⟩, ⟨c9⟩, ⟨c9⟩, ⟨c9⟩, ⟨c8⟩, ⟨c8⟩, ⟨c7⟩, ⟨c7⟩, ⟨c7⟩, ⟨c6⟩, ⟨c6⟩, ⟨c6⟩, ⟨(ok_wheel_Set k x4.1 x4.2.1 9 4 _ e5)⟩, ⟨(ok_wheel_Tick k x4.1 x4.2.1 1 _ e4)⟩, ⟨(ok_wheel_Tick k x2.1 x2.2.1 4 _ e3)⟩, ⟨(ok_wheel_Next k x2.1 x2.2.1 _ e2)⟩, ⟨(ok_wheel_Set k x1.1 x1.2.1 8 3 _ e1)⟩, ⟨(ok_wheel_Set k 0 [] 7 5 _ e0)⟩] (by kernel_rfl)
            · rw [if_neg c11] at h
              replace c11 := eqf c11
              obtain rfl := Option.some.inj h
              exact Tri.of (x := X10) mixed facts10 [.call ⟨true, [[(1, 2)]]⟩ (.tup [(.agg [(.int .i64 x1.1), (.sl 2 (List.map e_i64_i64 x1.2.1))]), (.int .i64 x1.2.2)]) [], .call ⟨true, []⟩ (.tup [(.agg [(.int .i64 x2.1), (.sl 2 (List.map e_i64_i64 x2.2.1))]), (.int .i64 x2.2.2)]) [], .call ⟨true, []⟩ (.tup [(.int .i64 x3.1), (.bool x3.2)]) [], .call ⟨true, []⟩ (.tup [(.agg [(.int .i64 x4.1), (.sl 2 (List.map e_i64_i64 x4.2.1))]), (.sl 1 (List.map e_i64 x4.2.2.1)), (.int .i64 x4.2.2.2)]) [], .call ⟨true, []⟩ (.tup [(.agg [(.int .i64 x5.1), (.sl 2 (List.map e_i64_i64 x5.2.1))]), (.sl 1 (List.map e_i64 x5.2.2.1)), (.int .i64 x5.2.2.2)]) [], .call ⟨true, []⟩ (.tup [(.agg [(.int .i64 x6.1), (.sl 2 (List.map e_i64_i64 x6.2.1))]), (.int .i64 x6.2.2)]) [], .d true, .d true, .d true, .d true, .d true, .d true, .d true, .d true, .d true, .d true, .d true, .call ⟨true, []⟩ (.bool x7) [], .rows (List.map e_i64 [8]), .d true, .d false, .d false, .d false, .d false, .d false, .d false, .d false, .d false, .d false, .d false, .d false, .d false, .d false, .d false, .d false, .d false] [⟨(rfl : false = false)⟩, ⟨(rfl : false = false)⟩, ⟨(rfl : false = false)⟩, ⟨(rfl : false = false)⟩, ⟨(rfl : false = false)⟩, ⟨(rfl : false = false)⟩, ⟨(rfl : false = false)⟩, ⟨(rfl : false = false)⟩, ⟨(rfl : false = false)⟩, ⟨(rfl : false = false)⟩, ⟨(rfl : false = false)⟩, ⟨(rfl : false = false)⟩, ⟨(rfl : false = false)⟩, ⟨c11⟩, ⟨c11⟩, ⟨c11⟩, ⟨c9⟩, ⟨(ok_law06_same k x4.2.2.1 [8] _ e10)⟩, ⟨(part_all e_i64 (l := [8]) (n := 1) rfl)⟩, ⟨(le_map e_i64 (Nat.le_refl 1) : 0 + 1 ≤ (List.map e_i64 [8]).length)⟩, ⟨c9⟩, ⟨c9⟩, ⟨c9⟩, ⟨c8⟩, ⟨c8⟩, ⟨c7⟩, ⟨c7⟩, ⟨c7⟩, ⟨c6⟩, ⟨c6⟩, ⟨c6⟩, ⟨(ok_wheel_Set k x4.1 x4.2.1 9 4 _ e5)⟩, ⟨(ok_wheel_Tick k x4.1 x4.2.1 1 _ e4)⟩, ⟨(ok_wheel_Tick k x2.1 x2.2.1 4 _ e3)⟩, ⟨(ok_wheel_Next k x2.1 x2.2.1 _ e2)⟩, ⟨(ok_wheel_Set k x1.1 x1.2.1 8 3 _ e1)⟩, ⟨(ok_wheel_Set k 0 [] 7 5 _ e0)⟩] (by kernel_rfl)
          · rw [if_neg c9] at h
            replace c9 := eqf c9
            obtain rfl := Option.some.inj h
            exact Tri.of (x := X10) mixed facts10 [.call ⟨true, [[(1, 2)]]⟩ (.tup [(.agg [(.int .i64 x1.1), (.sl 2 (List.map e_i64_i64 x1.2.1))]), (.int .i64 x1.2.2)]) [], .call ⟨true, []⟩ (.tup [(.agg [(.int .i64 x2.1), (.sl 2 (List.map e_i64_i64 x2.2.1))]), (.int .i64 x2.2.2)]) [], .call ⟨true, []⟩ (.tup [(.int .i64 x3.1), (.bool x3.2)]) [], .call ⟨true, []⟩ (.tup [(.agg [(.int .i64 x4.1), (.sl 2 (List.map e_i64_i64 x4.2.1))]), (.sl 1 (List.map e_i64 x4.2.2.1)), (.int .i64 x4.2.2.2)]) [], .call ⟨true, []⟩ (.tup [(.agg [(.int .i64 x5.1), (.sl 2 (List.map e_i64_i64 x5.2.1))]), (.sl 1 (List.map e_i64 x5.2.2.1)), (.int .i64 x5.2.2.2)]) [], .call ⟨true, []⟩ (.tup [(.agg [(.int .i64 x6.1), (.sl 2 (List.map e_i64_i64 x6.2.1))]), (.int .i64 x6.2.2)]) [], .d true, .d true, .d true, .d true, .d true, .d true, .d true, .d true, .d false, .d false, .d false, .d false, .d false, .d false, .d false, .d false, .d false, .d false, .d false, .d false, .d false, .d false, .d false, .d false, .d false, .d false, .d false, .d false] [⟨(rfl : false = false)⟩, ⟨(rfl : false = false)⟩, ⟨(rfl : false = false)⟩, ⟨(rfl : false = false)⟩, ⟨(rfl : false = false)⟩, ⟨(rfl : false = false)⟩, ⟨(rfl : false = false)⟩, ⟨(rfl : false = false)⟩, ⟨(rfl : false = false)⟩, ⟨(rfl : false = false)⟩, ⟨(rfl : false = false)⟩, ⟨(rfl : false = false)⟩, ⟨(rfl : false = false)⟩, ⟨(rfl : false = false)⟩, ⟨(rfl : false = false)⟩, ⟨(rfl : false = false)⟩, ⟨c9⟩, ⟨c9⟩, ⟨c9⟩, ⟨c9⟩, ⟨c8⟩, ⟨c8⟩, ⟨c7⟩, ⟨c7⟩, ⟨c7⟩, ⟨c6⟩, ⟨c6⟩, ⟨c6⟩, ⟨(ok_wheel_Set k x4.1 x4.2.1 9 4 _ e5)⟩, ⟨(ok_wheel_Tick k x4.1 x4.2.1 1 _ e4)⟩, ⟨(ok_wheel_Tick k x2.1 x2.2.1 4 _ e3)⟩, ⟨(ok_wheel_Next k x2.1 x2.2.1 _ e2)⟩, ⟨(ok_wheel_Set k x1.1 x1.2.1 8 3 _ e1)⟩, ⟨(ok_wheel_Set k 0 [] 7 5 _ e0)⟩] (by kernel_rfl)
        · rw [if_neg c8] at h
          replace c8 := eqf c8
          obtain rfl := Option.some.inj h
          exact Tri.of (x := X10) mixed facts10 [.call ⟨true, [[(1, 2)]]⟩ (.tup [(.agg [(.int .i64 x1.1), (.sl 2 (List.map e_i64_i64 x1.2.1))]), (.int .i64 x1.2.2)]) [], .call ⟨true, []⟩ (.tup [(.agg [(.int .i64 x2.1), (.sl 2 (List.map e_i64_i64 x2.2.1))]), (.int .i64 x2.2.2)]) [], .call ⟨true, []⟩ (.tup [(.int .i64 x3.1), (.bool x3.2)]) [], .call ⟨true, []⟩ (.tup [(.agg [(.int .i64 x4.1), (.sl 2 (List.map e_i64_i64 x4.2.1))]), (.sl 1 (List.map e_i64 x4.2.2.1)), (.int .i64 x4.2.2.2)]) [], .call ⟨true, []⟩ (.tup [(.agg [(.int .i64 x5.1), (.sl 2 (List.map e_i64_i64 x5.2.1))]), (.sl 1 (List.map e_i64 x5.2.2.1)), (.int .i64 x5.2.2.2)]) [], .call ⟨true, []⟩ (.tup [(.agg [(.int .i64 x6.1), (.sl 2 (List.map e_i64_i64 x6.2.1))]), (.int .i64 x6.2.2)]) [], .d true, .d true, .d true, .d true, .d true, .d true, .d false, .d false, .d false, .d false, .d false, .d false, .d false, .d false, .d false, .d false, .d false, .d false, .d false, .d false, .d false, .d false, .d false, .d false, .d false, .d false, .d false, .d false] [⟨(rfl : false = false)⟩, ⟨(rfl : false = false)⟩, ⟨(rfl : false = false)⟩, ⟨(rfl : false = false)⟩, ⟨(rfl : false = false)⟩, ⟨(rfl : false = false)⟩, ⟨(rfl : false = false)⟩, ⟨(rfl : false = false)⟩, ⟨(rfl : false = false)⟩, ⟨(rfl : false = false)⟩, ⟨(rfl : false = false)⟩, ⟨(rfl : false = false)⟩, ⟨(rfl : false = false)⟩, ⟨(rfl : false = false)⟩, ⟨(rfl : false = false)⟩, ⟨(rfl : false = false)⟩, ⟨(rfl : false = false)⟩, ⟨(rfl : false = false)⟩, ⟨(rfl : false = false)⟩, ⟨(rfl : false = false)⟩, ⟨c8⟩, ⟨c8⟩, ⟨c7⟩, ⟨c7⟩, ⟨c7⟩, ⟨c6⟩, ⟨c6⟩, ⟨c6⟩, ⟨(ok_wheel_Set k x4.1 x4.2.1 9 4 _ e5)⟩, ⟨(ok_wheel_Tick k x4.1 x4.2.1 1 _ e4)⟩, ⟨(ok_wheel_Tick k x2.1 x2.2.1 4 _ e3)⟩, ⟨(ok_wheel_Next k x2.1 x2.2.1 _ e2)⟩, ⟨(ok_wheel_Set k x1.1 x1.2.1 8 3 _ e1)⟩, ⟨(ok_wheel_Set k 0 [] 7 5 _ e0)⟩] (by kernel_rfl)
      · rw [if_neg c7] at h
        replace c7 := eqf c7
        obtain rfl := Option.some.inj h
        exact Tri.of (x := X10) mixed facts10 [.call ⟨true, [[(1, 2)]]⟩ (.tup [(.agg [(.int .i64 x1.1), (.sl 2 (List.map e_i64_i64 x1.2.1))]), (.int .i64 x1.2.2)]) [], .call ⟨true, []⟩ (.tup [(.agg [(.int .i64 x2.1), (.sl 2 (List.map e_i64_i64 x2.2.1))]), (.int .i64 x2.2.2)]) [], .call ⟨true, []⟩ (.tup [(.int .i64 x3.1), (.bool x3.2)]) [], .call ⟨true, []⟩ (.tup [(.agg [(.int .i64 x4.1), (.sl 2 (List.map e_i64_i64 x4.2.1))]), (.sl 1 (List.map e_i64 x4.2.2.1)), (.int .i64 x4.2.2.2)]) [], .call ⟨true, []⟩ (.tup [(.agg [(.int .i64 x5.1), (.sl 2 (List.map e_i64_i64 x5.2.1))]), (.sl 1 (List.map e_i64 x5.2.2.1)), (.int .i64 x5.2.2.2)]) [], .call ⟨true, []⟩ (.tup [(.agg [(.int .i64 x6.1), (.sl 2 (List.map e_i64_i64 x6.2.1))]), (.int .i64 x6.2.2)]) [], .d true, .d true, .d true, .d false, .d false, .d false, .d false, .d false, .d false, .d false, .d false, .d false, .d false, .d false, .d false, .d false, .d false, .d false, .d false, .d false, .d false, .d false, .d false, .d false, .d false, .d false, .d false, .d false] [⟨(rfl : false = false)⟩, ⟨(rfl : false = false)⟩, ⟨(rfl : false = false)⟩, ⟨(rfl : false = false)⟩, ⟨(rfl : false = false)⟩, ⟨(rfl : false = false)⟩, ⟨(rfl : false = false)⟩, ⟨(rfl : false = false)⟩, ⟨(rfl : false = false)⟩, ⟨(rfl : false = false)⟩, ⟨(rfl : false = false)⟩, ⟨(rfl : false = false)⟩, ⟨(rfl : false = false)⟩, ⟨(rfl : false = false)⟩, ⟨(rfl : false = false)⟩, ⟨(rfl : false = false)⟩, ⟨(rfl : false = false)⟩, ⟨(rfl : false = false)⟩, ⟨(rfl : false = false)⟩, ⟨(rfl : false = false)⟩, ⟨(rfl : false = false)⟩, ⟨(rfl : false = false)⟩, ⟨c7⟩, ⟨c7⟩, ⟨c7⟩, ⟨c6⟩, ⟨c6⟩, ⟨c6⟩, ⟨(ok_wheel_Set k x4.1 x4.2.1 9 4 _ e5)⟩, ⟨(ok_wheel_Tick k x4.1 x4.2.1 1 _ e4)⟩, ⟨(ok_wheel_Tick k x2.1 x2.2.1 4 _ e3)⟩, ⟨(ok_wheel_Next k x2.1 x2.2.1 _ e2)⟩, ⟨(ok_wheel_Set k x1.1 x1.2.1 8 3 _ e1)⟩, ⟨(ok_wheel_Set k 0 [] 7 5 _ e0)⟩] (by kernel_rfl)
    · rw [if_neg c6] at h
      replace c6 := eqf c6
      obtain rfl := Option.some.inj h
      exact Tri.of (x := X10) mixed facts10 [.call ⟨true, [[(1, 2)]]⟩ (.tup [(.agg [(.int .i64 x1.1), (.sl 2 (List.map e_i64_i64 x1.2.1))]), (.int .i64 x1.2.2)]) [], .call ⟨true, []⟩ (.tup [(.agg [(.int .i64 x2.1), (.sl 2 (List.map e_i64_i64 x2.2.1))]), (.int .i64 x2.2.2)]) [], .call ⟨true, []⟩ (.tup [(.int .i64 x3.1), (.bool x3.2)]) [], .call ⟨true, []⟩ (.tup [(.agg [(.int .i64 x4.1), (.sl 2 (List.map e_i64_i64 x4.2.1))]), (.sl 1 (List.map e_i64 x4.2.2.1)), (.int .i64 x4.2.2.2)]) [], .call ⟨true, []⟩ (.tup [(.agg [(.int .i64 x5.1), (.sl 2 (List.map e_i64_i64 x5.2.1))]), (.sl 1 (List.map e_i64 x5.2.2.1)), (.int .i64 x5.2.2.2)]) [], .call ⟨true, []⟩ (.tup [(.agg [(.int .i64 x6.1), (.sl 2 (List.map e_i64_i64 x6.2.1))]), (.int .i64 x6.2.2)]) [], .d false, .d false, .d false, .d false, .d false, .d false, .d false, .d false, .d false, .d false, .d false, .d false, .d false, .d false, .d false, .d false, .d false, .d false, .d false, .d false, .d false, .d false, .d false, .d false, .d false, .d false, .d false, .d false] [⟨(rfl : false = false)⟩, ⟨(rfl : false = false)⟩, ⟨(rfl : false = false)⟩, ⟨(rfl : false = false)⟩, ⟨(rfl : false = false)⟩, ⟨(rfl : false = false)⟩, ⟨(rfl : false = false)⟩, ⟨(rfl : false = false)⟩, ⟨(rfl : false = false)⟩, ⟨(rfl : false = false)⟩, ⟨(rfl : false = false)⟩, ⟨(rfl : false = false)⟩, ⟨(rfl : false = false)⟩, ⟨(rfl : false = false)⟩, ⟨(rfl : false = false)⟩, ⟨(rfl : false = false)⟩, ⟨(rfl : false = false)⟩, ⟨(rfl : false = false)⟩, ⟨(rfl : false = false)⟩, ⟨(rfl : false = false)⟩, ⟨(rfl : false = false)⟩, ⟨(rfl : false = false)⟩, ⟨(rfl : false = false)⟩, ⟨(rfl : false = false)⟩, ⟨(rfl : false = false)⟩, ⟨c6⟩, ⟨c6⟩, ⟨c6⟩, ⟨(ok_wheel_Set k x4.1 x4.2.1 9 4 _ e5)⟩, ⟨(ok_wheel_Tick k x4.1 x4.2.1 1 _ e4)⟩, ⟨(ok_wheel_Tick k x2.1 x2.2.1 4 _ e3)⟩, ⟨(ok_wheel_Next k x2.1 x2.2.1 _ e2)⟩, ⟨(ok_wheel_Set k x1.1 x1.2.1 8 3 _ e1)⟩, ⟨(ok_wheel_Set k 0 [] 7 5 _ e0)⟩] (by kernel_rfl)
end Go.Ws
