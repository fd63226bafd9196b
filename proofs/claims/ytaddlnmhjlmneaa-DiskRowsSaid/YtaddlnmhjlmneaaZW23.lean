/-
  law04_few: what the machine makes of it. (Printed by my own program.)
  Conditions: none.
-/
import Derived.Test.YtaddlnmhjlmneaaZPre
import Derived.Test.YtaddlnmhjlmneaaZPure
set_option linter.unusedVariables false
set_option linter.unusedSimpArgs false
namespace Go.Ws
open Go.Proofs
set_option linter.unusedSimpArgs false
set_option linter.unusedVariables false
set_option maxRecDepth 1000000
set_option maxHeartbeats 4000000
noncomputable def X23 : Ctx := ⟨Try.f23, [], true⟩
noncomputable def L23_0 : Code := at_ Try.f23 [1, 1, 0, 1, 4, 5]
def S23_0 (x1 : List (List Int)) (v23001_1 : Int) (v23001_2 : Int) : St := ⟨mkT 24 [(0, (.sl 1 (List.map e_Lu8E x1))), (3, (.int .i64 v23001_1)), (6, (.sl 1 (List.map e_Lu8E x1))), (7, (.int .i64 (nI x1.length))), (8, (.int .i64 v23001_2))], []⟩
def E23_0_0 (x1 : List (List Int)) (v23002_1 : Int) : St := ⟨mkT 24 [(0, (.sl 1 (List.map e_Lu8E x1))), (3, (.int .i64 v23002_1))], []⟩
def O23_0 (x1 : List (List Int)) (y : (Int)) : GX := .st (.exit 0) (E23_0_0 x1 y)
theorem ok_law04_few_l0 (x1 : List (List Int)) (y : (Int)) : ∀ (k : Nat) (v23001_1 : Int) (v23001_2 : Int), law04_few_l0 k x1 v23001_1 v23001_2 = some y → LT Try.prog X23 L23_0 (S23_0 x1 v23001_1 v23001_2) (O23_0 x1 y)
  | 0, v23001_1, v23001_2, h => by cases h
  | k + 1, v23001_1, v23001_2, h => by
    rw [law04_few_l0] at h
    by_cases cL0 : ltI v23001_2 (nI x1.length) = true
    · rw [if_pos cL0] at h
      by_cases cL1 : inI v23001_2 x1.length = true
      · rw [if_pos cL1] at h
        obtain ⟨v23000_1, eL2, h⟩ := Option.bind_eq_some_iff.1 h
        exact LT.next mixed (hs := ⟨[(0, []), (3, []), (6, []), (7, []), (8, [])], [], false, [], []⟩) (es := none) [.d true, .n x1.length, .row [(.sl 1 (List.map e_u8 v23000_1))], .n v23000_1.length] [⟨(len_map e_u8 v23000_1)⟩, ⟨(cells_map (e := e_Lu8E) eL2 1 0 1 (by decide))⟩, ⟨cL1⟩, ⟨(len_map e_Lu8E x1)⟩, ⟨cL0⟩] (by kernel_rfl) (ok_law04_few_l0 x1 y k (iadd .i64 v23001_1 (nI v23000_1.length)) (iadd .i64 v23001_2 1) h)
      · rw [if_neg cL1] at h
        replace cL1 := eqf cL1
        cases h
    · rw [if_neg cL0] at h
      replace cL0 := eqf cL0
      obtain rfl := Option.some.inj h
      show LT _ _ _ _ (.st (.exit 0) (E23_0_0 x1 v23001_1))
      exact LT.done mixed (hs := ⟨[], [], false, [], []⟩) (es := (some ⟨[(0, []), (3, [])], [], false, [], []⟩)) [.d false] [⟨cL0⟩] (by kernel_rfl) (fun s h => by cases h)
theorem ok_law04_few (k : Nat) (x1 : List (List Int)) (r : Bool) (h : law04_few k x1 = some r) : Tri Try.prog 23 [(.sl 1 (List.map e_Lu8E x1))] [] (.bool r) [] := by
    unfold law04_few at h
    obtain ⟨x3, e0, h⟩ := Option.bind_eq_some_iff.1 h
    by_cases c2 : ltI 30 (nI x1.length) = true
    · rw [if_pos c2] at h
      obtain rfl := Option.some.inj h
      exact Tri.of (x := X23) mixed facts23 [.n x1.length, .norm 2 ⟨[(0, []), (3, []), (6, []), (7, []), (8, [])], [], false, [], []⟩, .out (.st .normal (E23_0_0 x1 x3)), .n x1.length, .d false, .d false, .d false] [⟨(nF c2)⟩, ⟨(nF c2)⟩, ⟨(nF c2)⟩, ⟨(len_map e_Lu8E x1)⟩, ⟨(LT.block (ok_law04_few_l0 x1 _ k 0 0 e0))⟩, ⟨(len_map e_Lu8E x1)⟩] (by kernel_rfl)
    · rw [if_neg c2] at h
      replace c2 := eqf c2
      obtain rfl := Option.some.inj h
      exact Tri.of (x := X23) mixed facts23 [.n x1.length, .norm 2 ⟨[(0, []), (3, []), (6, []), (7, []), (8, [])], [], false, [], []⟩, .out (.st .normal (E23_0_0 x1 x3)), .n x1.length, .d true, .d true, .d true] [⟨(nT c2)⟩, ⟨(nT c2)⟩, ⟨(nT c2)⟩, ⟨(len_map e_Lu8E x1)⟩, ⟨(LT.block (ok_law04_few_l0 x1 _ k 0 0 e0))⟩, ⟨(len_map e_Lu8E x1)⟩] (by kernel_rfl)
end Go.Ws
