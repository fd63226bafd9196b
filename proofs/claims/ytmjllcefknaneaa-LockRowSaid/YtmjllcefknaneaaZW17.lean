/-
  law07_ours: what the machine makes of it. (Printed by my own program.)
  Conditions: none.
-/
import Derived.Test.YtmjllcefknaneaaZPre
import Derived.Test.YtmjllcefknaneaaZPure
set_option linter.unusedVariables false
set_option linter.unusedSimpArgs false
namespace Go.Ws
open Go.Proofs
set_option linter.unusedSimpArgs false
set_option linter.unusedVariables false
set_option maxRecDepth 1000000
set_option maxHeartbeats 4000000
noncomputable def X17 : Ctx := ⟨Try.f17, [], true⟩
noncomputable def L17_0 : Code := at_ Try.f17 [1, 1, 0, 1, 4, 5]
def S17_0 (x1 : List (Int × Int × Bool)) (v17001_1 : Int) (v17001_2 : List (Int × Int × Bool)) : St := ⟨mkT 18 [(3, (.ref 3 0 0 0 v17001_2.length .virt)), (6, (.sl 3 (List.map e_u8_i64_b x1))), (7, (.int .i64 (nI x1.length))), (8, (.int .i64 v17001_1))], [(.arr 3 (List.map e_u8_i64_b v17001_2) 0 0 false)]⟩
def E17_0_0 (v17002_1 : List (Int × Int × Bool)) : St := ⟨mkT 18 [(3, (.ref 3 0 0 0 v17002_1.length .virt))], [(.arr 3 (List.map e_u8_i64_b v17002_1) 0 0 false)]⟩
def O17_0 (x1 : List (Int × Int × Bool)) (y : ((List (Int × Int × Bool)))) : GX := .st (.exit 0) (E17_0_0 y)
theorem ok_law07_ours_l0 (x1 : List (Int × Int × Bool)) (y : ((List (Int × Int × Bool)))) : ∀ (k : Nat) (v17001_1 : Int) (v17001_2 : List (Int × Int × Bool)), law07_ours_l0 k x1 v17001_1 v17001_2 = some y → LT Try.prog X17 L17_0 (S17_0 x1 v17001_1 v17001_2) (O17_0 x1 y)
  | 0, v17001_1, v17001_2, h => by cases h
  | k + 1, v17001_1, v17001_2, h => by
    rw [law07_ours_l0] at h
    by_cases cL0 : ltI v17001_1 (nI x1.length) = true
    · rw [if_pos cL0] at h
      by_cases cL1 : inI v17001_1 x1.length = true
      · rw [if_pos cL1] at h
        obtain ⟨v17000_1, eL2, h⟩ := Option.bind_eq_some_iff.1 h
        by_cases cL3 : roomI (((v17001_2 ++ [v17000_1]).length) * 24) = true
        · rw [if_pos cL3] at h
          exact LT.next mixed (hs := ⟨[(3, []), (6, []), (7, []), (8, [])], [⟨.tmp 3, [], some 3⟩], false, [], []⟩) (es := none) [.d true, .n x1.length, .row [(.int .u8 v17000_1.1), (.int .i64 v17000_1.2.1), (.bool v17000_1.2.2)], .rows (List.map e_u8_i64_b [v17000_1]), .n ((v17001_2 ++ [v17000_1]).length), .n v17001_2.length, .d true, .rows (List.map e_u8_i64_b (v17001_2 ++ [v17000_1])), .n ((v17001_2 ++ [v17000_1]).length), .rows (List.map e_u8_i64_b (v17001_2 ++ [v17000_1]))] [⟨(take_all e_u8_i64_b (l := (v17001_2 ++ [v17000_1])) (n := ((v17001_2 ++ [v17000_1]).length)) rfl)⟩, ⟨(rfl : (v17001_2 ++ [v17000_1]).length = (v17001_2 ++ [v17000_1]).length)⟩, ⟨(zle ((v17001_2 ++ [v17000_1]).length))⟩, ⟨(app_map e_u8_i64_b v17001_2 [v17000_1])⟩, ⟨(eqN_self v17001_2.length)⟩, ⟨(len_map e_u8_i64_b v17001_2)⟩, ⟨cL3⟩, ⟨(by simp only [List.length_append, List.length_cons, List.length_nil, List.length_take, List.length_drop, List.length_set, List.length_replicate, List.length_map, List.map_nil, List.map_cons] <;> omega : v17001_2.length + (List.map e_u8_i64_b [v17000_1]).length = (v17001_2 ++ [v17000_1]).length)⟩, ⟨(part_all e_u8_i64_b (l := [v17000_1]) (n := 1) rfl)⟩, ⟨(le_map e_u8_i64_b (Nat.le_refl 1) : 0 + 1 ≤ (List.map e_u8_i64_b [v17000_1]).length)⟩, ⟨(cells_map (e := e_u8_i64_b) eL2 3 0 3 (by decide))⟩, ⟨cL1⟩, ⟨(len_map e_u8_i64_b x1)⟩, ⟨cL0⟩] (by kernel_rfl) (ok_law07_ours_l0 x1 y k (iadd .i64 v17001_1 1) (v17001_2 ++ [v17000_1]) h)
        · rw [if_neg cL3] at h
          replace cL3 := eqf cL3
          cases h
      · rw [if_neg cL1] at h
        replace cL1 := eqf cL1
        cases h
    · rw [if_neg cL0] at h
      replace cL0 := eqf cL0
      obtain rfl := Option.some.inj h
      show LT _ _ _ _ (.st (.exit 0) (E17_0_0 v17001_2))
      exact LT.done mixed (hs := ⟨[], [], false, [], []⟩) (es := (some ⟨[(3, [])], [⟨.tmp 3, [], none⟩], false, [], []⟩)) [.d false] [⟨cL0⟩] (by kernel_rfl) (fun s h => by cases h)
theorem ok_law07_ours (k : Nat) (x1 : List (Int × Int × Bool)) (r : (List (Int × Int × Bool))) (h : law07_ours k x1 = some r) : Tri Try.prog 17 [(.sl 3 (List.map e_u8_i64_b x1))] [] (.sl 3 (List.map e_u8_i64_b r)) [] := by
    unfold law07_ours at h
    obtain ⟨x3, e0, h⟩ := Option.bind_eq_some_iff.1 h
    obtain rfl := Option.some.inj h
    exact Tri.of (x := X17) mixed facts17 [.n x1.length, .norm 2 ⟨[(3, []), (6, []), (7, []), (8, [])], [⟨.tmp 3, [], some 3⟩], false, [], []⟩, .n 0, .rows (List.map e_u8_i64_b []), .out (.st .normal (E17_0_0 x3)), .rows (List.map e_u8_i64_b x3)] [⟨(part_all e_u8_i64_b (l := x3) (n := x3.length) rfl)⟩, ⟨(le_map e_u8_i64_b (Nat.le_refl x3.length) : 0 + x3.length ≤ (List.map e_u8_i64_b x3).length)⟩, ⟨(LT.block (ok_law07_ours_l0 x1 _ k 0 [] e0))⟩, ⟨(take_all e_u8_i64_b (l := []) (n := 0) rfl)⟩, ⟨(rfl : 0 = 0)⟩, ⟨(zle 0)⟩, ⟨(len_map e_u8_i64_b x1)⟩] (by kernel_rfl)
end Go.Ws
