/-
  sum_All: what the machine makes of it. (Printed by my own program.)
  Conditions: none.
-/
import Derived.Test.YtaddlnmhjlmneaaZPre
import Derived.Test.YtaddlnmhjlmneaaZPure
import Derived.Test.YtaddlnmhjlmneaaZW34
set_option linter.unusedVariables false
set_option linter.unusedSimpArgs false
namespace Go.Ws
open Go.Proofs
set_option linter.unusedSimpArgs false
set_option linter.unusedVariables false
set_option maxRecDepth 1000000
set_option maxHeartbeats 4000000
noncomputable def X29 : Ctx := ⟨Try.f29, [], false⟩
noncomputable def L29_0 : Code := at_ Try.f29 [1, 6, 1, 1, 1, 0, 4, 5]
def S29_0 (x1 : List Int) (v29001_1 : Int) (v29001_2 : List (List Int)) : St := ⟨mkT 29 [(0, (.sl 1 (List.map e_u8 x1))), (4, (.ref 1 0 0 0 v29001_2.length .virt)), (5, (.int .i64 v29001_1))], [(.arr 1 (List.map e_Lu8E v29001_2) 0 0 false)]⟩
def E29_0_0 (v29002_1 : Int) (v29002_2 : List (List Int)) : St := ⟨mkT 29 [(4, (.ref 1 0 0 0 v29002_2.length .virt)), (5, (.int .i64 v29002_1))], [(.arr 1 (List.map e_Lu8E v29002_2) 0 0 false)]⟩
def O29_0 (x1 : List Int) (y : (Int × (List (List Int)))) : GX := .st (.exit 0) (E29_0_0 y.1 y.2)
theorem ok_sum_All_l0 (x1 : List Int) (y : (Int × (List (List Int)))) : ∀ (k : Nat) (v29001_1 : Int) (v29001_2 : List (List Int)), sum_All_l0 k x1 v29001_1 v29001_2 = some y → LT Try.prog X29 L29_0 (S29_0 x1 v29001_1 v29001_2) (O29_0 x1 y)
  | 0, v29001_1, v29001_2, h => by cases h
  | k + 1, v29001_1, v29001_2, h => by
    rw [sum_All_l0] at h
    by_cases cL0 : leI v29001_1 x1.length = true
    · rw [if_pos cL0] at h
      obtain ⟨v29000_1, eL1, h⟩ := Option.bind_eq_some_iff.1 h
      by_cases cL2 : eqI v29000_1.2.2 0 = true
      · rw [if_pos cL2] at h
        by_cases cL3 : roomI (((v29001_2 ++ [v29000_1.1]).length) * 24) = true
        · rw [if_pos cL3] at h
          exact LT.next mixed (hs := ⟨[(0, []), (4, []), (5, [])], [⟨.tmp 4, [], some 1⟩], false, [], []⟩) (es := none) [.n x1.length, .rows (List.map e_u8 (List.drop (tN v29001_1) x1)), .call ⟨true, []⟩ (.tup [(.sl 1 (List.map e_u8 v29000_1.1)), (.int .i64 v29000_1.2.1), (.int .i64 v29000_1.2.2)]) [], .d true, .rows (List.map e_Lu8E [v29000_1.1]), .n ((v29001_2 ++ [v29000_1.1]).length), .n v29001_2.length, .d true, .rows (List.map e_Lu8E (v29001_2 ++ [v29000_1.1])), .n ((v29001_2 ++ [v29000_1.1]).length), .rows (List.map e_Lu8E (v29001_2 ++ [v29000_1.1]))] [⟨(take_all e_Lu8E (l := (v29001_2 ++ [v29000_1.1])) (n := ((v29001_2 ++ [v29000_1.1]).length)) rfl)⟩, ⟨(rfl : (v29001_2 ++ [v29000_1.1]).length = (v29001_2 ++ [v29000_1.1]).length)⟩, ⟨(zle ((v29001_2 ++ [v29000_1.1]).length))⟩, ⟨(app_map e_Lu8E v29001_2 [v29000_1.1])⟩, ⟨(eqN_self v29001_2.length)⟩, ⟨(len_map e_Lu8E v29001_2)⟩, ⟨cL3⟩, ⟨(by simp only [List.length_append, List.length_cons, List.length_nil, List.length_take, List.length_drop, List.length_set, List.length_replicate, List.length_map, List.map_nil, List.map_cons] <;> omega : v29001_2.length + (List.map e_Lu8E [v29000_1.1]).length = (v29001_2 ++ [v29000_1.1]).length)⟩, ⟨(part_all e_Lu8E (l := [v29000_1.1]) (n := 1) rfl)⟩, ⟨(le_map e_Lu8E (Nat.le_refl 1) : 0 + 1 ≤ (List.map e_Lu8E [v29000_1.1]).length)⟩, ⟨cL2⟩, ⟨(ok_sum_First k (List.drop (tN v29001_1) x1) _ eL1)⟩, ⟨(cut_drop e_u8 (l := x1) (n := x1.length) rfl (tN v29001_1))⟩, ⟨cL0⟩, ⟨(len_map e_u8 x1)⟩] (by kernel_rfl) (ok_sum_All_l0 x1 y k (iadd .i64 v29001_1 v29000_1.2.1) (v29001_2 ++ [v29000_1.1]) h)
        · rw [if_neg cL3] at h
          replace cL3 := eqf cL3
          cases h
      · rw [if_neg cL2] at h
        replace cL2 := eqf cL2
        obtain rfl := Option.some.inj h
        show LT _ _ _ _ (.st (.exit 0) (E29_0_0 v29001_1 v29001_2))
        exact LT.done mixed (hs := ⟨[], [], false, [], []⟩) (es := (some ⟨[(4, []), (5, [])], [⟨.tmp 4, [], none⟩], false, [], []⟩)) [.n x1.length, .rows (List.map e_u8 (List.drop (tN v29001_1) x1)), .call ⟨true, []⟩ (.tup [(.sl 1 (List.map e_u8 v29000_1.1)), (.int .i64 v29000_1.2.1), (.int .i64 v29000_1.2.2)]) [], .d false] [⟨cL2⟩, ⟨(ok_sum_First k (List.drop (tN v29001_1) x1) _ eL1)⟩, ⟨(cut_drop e_u8 (l := x1) (n := x1.length) rfl (tN v29001_1))⟩, ⟨cL0⟩, ⟨(len_map e_u8 x1)⟩] (by kernel_rfl) (fun s h => by cases h)
    · rw [if_neg cL0] at h
      replace cL0 := eqf cL0
      cases h
theorem ok_sum_All (k : Nat) (x1 : List Int) (r : Int × (List (List Int))) (h : sum_All k x1 = some r) : Tri Try.prog 29 [(.sl 1 (List.map e_u8 x1))] [] (.tup [(.ref 1 0 0 0 r.2.length .virt), (.int .i64 r.1)]) [(.arr 1 (List.map e_Lu8E r.2) 0 0 false)] := by
    unfold sum_All at h
    obtain ⟨x3, e0, h⟩ := Option.bind_eq_some_iff.1 h
    obtain rfl := Option.some.inj h
    exact Tri.of (x := X29) mixed facts29 [.norm 2 ⟨[(0, []), (4, []), (5, [])], [⟨.tmp 4, [], some 1⟩], false, [], []⟩, .n 0, .rows (List.map e_Lu8E []), .out (.st .normal (E29_0_0 x3.1 x3.2)), .norm 0 ⟨[(2, []), (3, [])], [⟨.tmp 2, [], none⟩], false, [], []⟩] [⟨(LT.block (ok_sum_All_l0 x1 _ k 0 [] e0))⟩, ⟨(take_all e_Lu8E (l := []) (n := 0) rfl)⟩, ⟨(rfl : 0 = 0)⟩, ⟨(zle 0)⟩] (by kernel_rfl)
end Go.Ws
