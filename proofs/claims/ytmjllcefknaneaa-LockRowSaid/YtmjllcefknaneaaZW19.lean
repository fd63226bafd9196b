/-
  ref07_Free: what the machine makes of it. (Printed by my own program.)
  Conditions: none.
-/
import Derived.Test.YtmjllcefknaneaaZPre
import Derived.Test.YtmjllcefknaneaaZPure
set_option linter.unusedVariables false
set_option linter.unusedSimpArgs false
namespace Go.Ws
open Go.Proofs
set_option linter.unusedSimpArgs false
set_option linter.unusedVariables false
set_option maxRecDepth 1000000
set_option maxHeartbeats 4000000
noncomputable def X19 : Ctx := ⟨Try.f19, [], true⟩
noncomputable def L19_0 : Code := at_ Try.f19 [1, 1, 0, 1, 4, 5]
def S19_0 (x1 : List (Int × Int × Bool)) (x2 : Int) (v19001_1 : Int) (v19001_2 : List (Int × Int × Bool)) : St := ⟨mkT 28 [(0, (.sl 3 (List.map e_u8_i64_b x1))), (1, (.int .i64 x2)), (5, (.ref 3 0 0 0 v19001_2.length .virt)), (6, (.int .i64 v19001_1))], [(.arr 3 (List.map e_u8_i64_b v19001_2) 0 0 false)]⟩
def E19_0_0 (v19002_1 : List (Int × Int × Bool)) : St := ⟨mkT 28 [(5, (.ref 3 0 0 0 v19002_1.length .virt))], [(.arr 3 (List.map e_u8_i64_b v19002_1) 0 0 false)]⟩
def O19_0 (x1 : List (Int × Int × Bool)) (x2 : Int) (y : ((List (Int × Int × Bool)))) : GX := .st (.exit 0) (E19_0_0 y)
theorem ok_ref07_Free_l0 (x1 : List (Int × Int × Bool)) (x2 : Int) (y : ((List (Int × Int × Bool)))) : ∀ (k : Nat) (v19001_1 : Int) (v19001_2 : List (Int × Int × Bool)), ref07_Free_l0 k x1 x2 v19001_1 v19001_2 = some y → LT Try.prog X19 L19_0 (S19_0 x1 x2 v19001_1 v19001_2) (O19_0 x1 x2 y)
  | 0, v19001_1, v19001_2, h => by cases h
  | k + 1, v19001_1, v19001_2, h => by
    rw [ref07_Free_l0] at h
    by_cases cL0 : ltI v19001_1 (nI x1.length) = true
    · rw [if_pos cL0] at h
      by_cases cL1 : inI v19001_1 x1.length = true
      · rw [if_pos cL1] at h
        obtain ⟨v19000_1, eL2, h⟩ := Option.bind_eq_some_iff.1 h
        by_cases cL3 : eqI v19000_1.2.1 x2 = true
        · rw [if_pos cL3] at h
          exact LT.next mixed (hs := ⟨[(0, []), (1, []), (5, []), (6, [])], [⟨.tmp 5, [], some 3⟩], false, [], []⟩) (es := none) [.n x1.length, .d true, .n x1.length, .row [(.int .i64 v19000_1.2.1)], .d false, .n v19001_2.length, .rows (List.map e_u8_i64_b v19001_2)] [⟨(take_all e_u8_i64_b (l := v19001_2) (n := v19001_2.length) rfl)⟩, ⟨(rfl : v19001_2.length = v19001_2.length)⟩, ⟨(zle v19001_2.length)⟩, ⟨(nF cL3)⟩, ⟨(cells_map (e := e_u8_i64_b) eL2 3 1 1 (by decide))⟩, ⟨cL1⟩, ⟨(len_map e_u8_i64_b x1)⟩, ⟨cL0⟩, ⟨(len_map e_u8_i64_b x1)⟩] (by kernel_rfl) (ok_ref07_Free_l0 x1 x2 y k (iadd .i64 v19001_1 1) v19001_2 h)
        · rw [if_neg cL3] at h
          replace cL3 := eqf cL3
          by_cases cL4 : roomI (((v19001_2 ++ [v19000_1]).length) * 24) = true
          · rw [if_pos cL4] at h
            exact LT.next mixed (hs := ⟨[(0, []), (1, []), (5, []), (6, [])], [⟨.tmp 5, [], some 3⟩], false, [], []⟩) (es := none) [.n x1.length, .d true, .n x1.length, .row [(.int .i64 v19000_1.2.1)], .d true, .n x1.length, .row [(.int .u8 v19000_1.1), (.int .i64 v19000_1.2.1), (.bool v19000_1.2.2)], .rows (List.map e_u8_i64_b [v19000_1]), .n ((v19001_2 ++ [v19000_1]).length), .n v19001_2.length, .d true, .rows (List.map e_u8_i64_b (v19001_2 ++ [v19000_1])), .n ((v19001_2 ++ [v19000_1]).length), .rows (List.map e_u8_i64_b (v19001_2 ++ [v19000_1]))] [⟨(take_all e_u8_i64_b (l := (v19001_2 ++ [v19000_1])) (n := ((v19001_2 ++ [v19000_1]).length)) rfl)⟩, ⟨(rfl : (v19001_2 ++ [v19000_1]).length = (v19001_2 ++ [v19000_1]).length)⟩, ⟨(zle ((v19001_2 ++ [v19000_1]).length))⟩, ⟨(app_map e_u8_i64_b v19001_2 [v19000_1])⟩, ⟨(eqN_self v19001_2.length)⟩, ⟨(len_map e_u8_i64_b v19001_2)⟩, ⟨cL4⟩, ⟨(by simp only [List.length_append, List.length_cons, List.length_nil, List.length_take, List.length_drop, List.length_set, List.length_replicate, List.length_map, List.map_nil, List.map_cons] <;> omega : v19001_2.length + (List.map e_u8_i64_b [v19000_1]).length = (v19001_2 ++ [v19000_1]).length)⟩, ⟨(part_all e_u8_i64_b (l := [v19000_1]) (n := 1) rfl)⟩, ⟨(le_map e_u8_i64_b (Nat.le_refl 1) : 0 + 1 ≤ (List.map e_u8_i64_b [v19000_1]).length)⟩, ⟨(cells_map (e := e_u8_i64_b) eL2 3 0 3 (by decide))⟩, ⟨cL1⟩, ⟨(len_map e_u8_i64_b x1)⟩, ⟨(nT cL3)⟩, ⟨(cells_map (e := e_u8_i64_b) eL2 3 1 1 (by decide))⟩, ⟨cL1⟩, ⟨(len_map e_u8_i64_b x1)⟩, ⟨cL0⟩, ⟨(len_map e_u8_i64_b x1)⟩] (by kernel_rfl) (ok_ref07_Free_l0 x1 x2 y k (iadd .i64 v19001_1 1) (v19001_2 ++ [v19000_1]) h)
          · rw [if_neg cL4] at h
            replace cL4 := eqf cL4
            cases h
      · rw [if_neg cL1] at h
        replace cL1 := eqf cL1
        cases h
    · rw [if_neg cL0] at h
      replace cL0 := eqf cL0
      obtain rfl := Option.some.inj h
      show LT _ _ _ _ (.st (.exit 0) (E19_0_0 v19001_2))
      exact LT.done mixed (hs := ⟨[], [], false, [], []⟩) (es := (some ⟨[(5, [])], [⟨.tmp 5, [], none⟩], false, [], []⟩)) [.n x1.length, .d false] [⟨cL0⟩, ⟨(len_map e_u8_i64_b x1)⟩] (by kernel_rfl) (fun s h => by cases h)
theorem ok_ref07_Free (k : Nat) (x1 : List (Int × Int × Bool)) (x2 : Int) (r : (List (Int × Int × Bool))) (h : ref07_Free k x1 x2 = some r) : Tri Try.prog 19 [(.sl 3 (List.map e_u8_i64_b x1)), (.int .i64 x2)] [] (.sl 3 (List.map e_u8_i64_b r)) [] := by
    unfold ref07_Free at h
    obtain ⟨x4, e0, h⟩ := Option.bind_eq_some_iff.1 h
    obtain rfl := Option.some.inj h
    exact Tri.of (x := X19) mixed facts19 [.norm 2 ⟨[(0, []), (1, []), (5, []), (6, [])], [⟨.tmp 5, [], some 3⟩], false, [], []⟩, .n 0, .rows (List.map e_u8_i64_b []), .out (.st .normal (E19_0_0 x4)), .rows (List.map e_u8_i64_b x4)] [⟨(part_all e_u8_i64_b (l := x4) (n := x4.length) rfl)⟩, ⟨(le_map e_u8_i64_b (Nat.le_refl x4.length) : 0 + x4.length ≤ (List.map e_u8_i64_b x4).length)⟩, ⟨(LT.block (ok_ref07_Free_l0 x1 x2 _ k 0 [] e0))⟩, ⟨(take_all e_u8_i64_b (l := []) (n := 0) rfl)⟩, ⟨(rfl : 0 = 0)⟩, ⟨(zle 0)⟩] (by kernel_rfl)
end Go.Ws
