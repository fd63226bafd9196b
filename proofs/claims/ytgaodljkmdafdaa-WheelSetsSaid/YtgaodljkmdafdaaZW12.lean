/-
  law06_Theirs: what the machine makes of it. (Printed by my own program.)
  Conditions: none.
-/
import Derived.Test.YtgaodljkmdafdaaZPre
import Derived.Test.YtgaodljkmdafdaaZPure
set_option linter.unusedVariables false
set_option linter.unusedSimpArgs false
namespace Go.Ws
open Go.Proofs
set_option linter.unusedSimpArgs false
set_option linter.unusedVariables false
set_option maxRecDepth 1000000
set_option maxHeartbeats 4000000
noncomputable def X12 : Ctx := ⟨Try.f12, [], true⟩
noncomputable def L12_0 : Code := at_ Try.f12 [1, 1, 0, 1, 4, 5]
def S12_0 (x1 : Int) (x2 : List (Int × Int)) (v12001_1 : Int) (v12001_2 : List (Int × Int)) : St := ⟨mkT 24 [(2, (.hp 0 0)), (3, (.hp 1 0)), (10, (.sl 2 (List.map e_i64_i64 x2))), (11, (.int .i64 (nI x2.length))), (12, (.int .i64 v12001_1))], [(.row [(.int .i64 0), .nils]), (.row [(.int .i64 x1), (.ref 2 2 0 0 v12001_2.length .virt)]), (.arr 2 (List.map e_i64_i64 v12001_2) 0 0 false)]⟩
def E12_0_0 (x1 : Int) (v12002_1 : List (Int × Int)) : St := ⟨mkT 24 [(2, (.hp 0 0)), (3, (.hp 1 0))], [(.row [(.int .i64 0), .nils]), (.row [(.int .i64 x1), (.ref 2 2 0 0 v12002_1.length .virt)]), (.arr 2 (List.map e_i64_i64 v12002_1) 0 0 false)]⟩
def O12_0 (x1 : Int) (x2 : List (Int × Int)) (y : ((List (Int × Int)))) : GX := .st (.exit 0) (E12_0_0 x1 y)
theorem ok_law06_Theirs_l0 (x1 : Int) (x2 : List (Int × Int)) (y : ((List (Int × Int)))) : ∀ (k : Nat) (v12001_1 : Int) (v12001_2 : List (Int × Int)), law06_Theirs_l0 k x1 x2 v12001_1 v12001_2 = some y → LT Try.prog X12 L12_0 (S12_0 x1 x2 v12001_1 v12001_2) (O12_0 x1 x2 y)
  | 0, v12001_1, v12001_2, h => by cases h
  | k + 1, v12001_1, v12001_2, h => by
    rw [law06_Theirs_l0] at h
    by_cases cL0 : ltI v12001_1 (nI x2.length) = true
    · rw [if_pos cL0] at h
      by_cases cL1 : inI v12001_1 x2.length = true
      · rw [if_pos cL1] at h
        obtain ⟨v12000_1, eL2, h⟩ := Option.bind_eq_some_iff.1 h
        by_cases cL3 : roomI (((v12001_2 ++ [v12000_1]).length) * 16) = true
        · rw [if_pos cL3] at h
          exact LT.next mixed (hs := ⟨[(2, []), (3, []), (10, []), (11, []), (12, [])], [⟨.tmp 2, [], none⟩, ⟨.tmp 3, [], none⟩, ⟨.cell 1 1, [], some 2⟩], false, [], []⟩) (es := none) [.d true, .n x2.length, .row [(.int .i64 v12000_1.1), (.int .i64 v12000_1.2)], .rows (List.map e_i64_i64 [v12000_1]), .n ((v12001_2 ++ [v12000_1]).length), .n v12001_2.length, .d true, .rows (List.map e_i64_i64 (v12001_2 ++ [v12000_1])), .n ((v12001_2 ++ [v12000_1]).length), .rows (List.map e_i64_i64 (v12001_2 ++ [v12000_1]))] [⟨(take_all e_i64_i64 (l := (v12001_2 ++ [v12000_1])) (n := ((v12001_2 ++ [v12000_1]).length)) rfl)⟩, ⟨(rfl : (v12001_2 ++ [v12000_1]).length = (v12001_2 ++ [v12000_1]).length)⟩, ⟨(zle ((v12001_2 ++ [v12000_1]).length))⟩, ⟨(app_map e_i64_i64 v12001_2 [v12000_1])⟩, ⟨(eqN_self v12001_2.length)⟩, ⟨(len_map e_i64_i64 v12001_2)⟩, ⟨cL3⟩, ⟨(by simp only [List.length_append, List.length_cons, List.length_nil, List.length_take, List.length_drop, List.length_set, List.length_replicate, List.length_map, List.map_nil, List.map_cons] <;> omega : v12001_2.length + (List.map e_i64_i64 [v12000_1]).length = (v12001_2 ++ [v12000_1]).length)⟩, ⟨(part_all e_i64_i64 (l := [v12000_1]) (n := 1) rfl)⟩, ⟨(le_map e_i64_i64 (Nat.le_refl 1) : 0 + 1 ≤ (List.map e_i64_i64 [v12000_1]).length)⟩, ⟨(cells_map (e := e_i64_i64) eL2 2 0 2 (by decide))⟩, ⟨cL1⟩, ⟨(len_map e_i64_i64 x2)⟩, ⟨cL0⟩] (by kernel_rfl) (ok_law06_Theirs_l0 x1 x2 y k (iadd .i64 v12001_1 1) (v12001_2 ++ [v12000_1]) h)
        · rw [if_neg cL3] at h
          replace cL3 := eqf cL3
          cases h
      · rw [if_neg cL1] at h
        replace cL1 := eqf cL1
        cases h
    · rw [if_neg cL0] at h
      replace cL0 := eqf cL0
      obtain rfl := Option.some.inj h
      show LT _ _ _ _ (.st (.exit 0) (E12_0_0 x1 v12001_2))
      exact LT.done mixed (hs := ⟨[], [], false, [], []⟩) (es := (some ⟨[(2, []), (3, [])], [⟨.tmp 2, [], none⟩, ⟨.tmp 3, [], none⟩, ⟨.cell 1 1, [], none⟩], false, [], []⟩)) [.d false] [⟨cL0⟩] (by kernel_rfl) (fun s h => by cases h)
theorem ok_law06_Theirs (k : Nat) (x1 : Int) (x2 : List (Int × Int)) (r : Int × (List (Int × Int))) (h : law06_Theirs k x1 x2 = some r) : Tri Try.prog 12 [(.agg [(.int .i64 x1), (.sl 2 (List.map e_i64_i64 x2))])] [] (.agg [(.int .i64 r.1), (.sl 2 (List.map e_i64_i64 r.2))]) [] := by
    unfold law06_Theirs at h
    obtain ⟨x4, e0, h⟩ := Option.bind_eq_some_iff.1 h
    obtain rfl := Option.some.inj h
    exact Tri.of (x := X12) mixed facts12 [.n x2.length, .norm 2 ⟨[(2, []), (3, []), (10, []), (11, []), (12, [])], [⟨.tmp 2, [], none⟩, ⟨.tmp 3, [], none⟩, ⟨.cell 1 1, [], some 2⟩], false, [], []⟩, .n 0, .rows (List.map e_i64_i64 []), .out (.st .normal (E12_0_0 x1 x4)), .rows (List.map e_i64_i64 x4)] [⟨(part_all e_i64_i64 (l := x4) (n := x4.length) rfl)⟩, ⟨(le_map e_i64_i64 (Nat.le_refl x4.length) : 0 + x4.length ≤ (List.map e_i64_i64 x4).length)⟩, ⟨(LT.block (ok_law06_Theirs_l0 x1 x2 _ k 0 [] e0))⟩, ⟨(take_all e_i64_i64 (l := []) (n := 0) rfl)⟩, ⟨(rfl : 0 = 0)⟩, ⟨(zle 0)⟩, ⟨(len_map e_i64_i64 x2)⟩] (by kernel_rfl)
end Go.Ws
