/-
  ref08_Of: what the machine makes of it. (Printed by my own program.)
  Conditions: none.
-/
import Derived.Test.YtlgkcajgkahmgaaZPre
import Derived.Test.YtlgkcajgkahmgaaZPure
import Derived.Test.YtlgkcajgkahmgaaZW36
set_option linter.unusedVariables false
set_option linter.unusedSimpArgs false
namespace Go.Ws
open Go.Proofs
set_option linter.unusedSimpArgs false
set_option linter.unusedVariables false
set_option maxRecDepth 1000000
set_option maxHeartbeats 4000000
noncomputable def X29 : Ctx := ⟨Try.f29, [], true⟩
noncomputable def L29_0 : Code := at_ Try.f29 [1, 1, 0, 1, 4, 5]
def S29_0 (x1 : List (Int × Int)) (v29001_1 : Int) (v29001_2 : List (Int × Int)) : St := ⟨mkT 24 [(0, (.sl 2 (List.map e_u8_i64 x1))), (3, (.ref 2 0 0 0 v29001_2.length .virt)), (4, (.int .i64 v29001_1))], [(.arr 2 (List.map e_u8_i64 v29001_2) 0 0 false)]⟩
def E29_0_0 (v29002_1 : List (Int × Int)) : St := ⟨mkT 24 [(3, (.ref 2 0 0 0 v29002_1.length .virt))], [(.arr 2 (List.map e_u8_i64 v29002_1) 0 0 false)]⟩
def O29_0 (x1 : List (Int × Int)) (y : ((List (Int × Int)))) : GX := .st (.exit 0) (E29_0_0 y)
theorem ok_ref08_Of_l0 (x1 : List (Int × Int)) (y : ((List (Int × Int)))) : ∀ (k : Nat) (v29001_1 : Int) (v29001_2 : List (Int × Int)), ref08_Of_l0 k x1 v29001_1 v29001_2 = some y → LT Try.prog X29 L29_0 (S29_0 x1 v29001_1 v29001_2) (O29_0 x1 y)
  | 0, v29001_1, v29001_2, h => by cases h
  | k + 1, v29001_1, v29001_2, h => by
    rw [ref08_Of_l0] at h
    by_cases cL0 : ltI v29001_1 64 = true
    · rw [if_pos cL0] at h
      obtain ⟨v29000_1, eL1, h⟩ := Option.bind_eq_some_iff.1 h
      by_cases cL2 : eqI v29000_1 0 = true
      · rw [if_pos cL2] at h
        exact LT.next mixed (hs := ⟨[(0, []), (3, []), (4, [])], [⟨.tmp 3, [], some 2⟩], false, [], []⟩) (es := none) [.d true, .call ⟨true, []⟩ (.int .i64 v29000_1) [], .d false, .n v29001_2.length, .rows (List.map e_u8_i64 v29001_2)] [⟨(take_all e_u8_i64 (l := v29001_2) (n := v29001_2.length) rfl)⟩, ⟨(rfl : v29001_2.length = v29001_2.length)⟩, ⟨(zle v29001_2.length)⟩, ⟨(nF cL2)⟩, ⟨(ok_ref08_sum k x1 (conv .u8 v29001_1) _ eL1)⟩, ⟨cL0⟩] (by kernel_rfl) (ok_ref08_Of_l0 x1 y k (iadd .i64 v29001_1 1) v29001_2 h)
      · rw [if_neg cL2] at h
        replace cL2 := eqf cL2
        by_cases cL3 : roomI (((v29001_2 ++ [(conv .u8 v29001_1, v29000_1)]).length) * 16) = true
        · rw [if_pos cL3] at h
          exact LT.next mixed (hs := ⟨[(0, []), (3, []), (4, [])], [⟨.tmp 3, [], some 2⟩], false, [], []⟩) (es := none) [.d true, .call ⟨true, []⟩ (.int .i64 v29000_1) [], .d true, .rows (List.map e_u8_i64 [(conv .u8 v29001_1, v29000_1)]), .n ((v29001_2 ++ [(conv .u8 v29001_1, v29000_1)]).length), .n v29001_2.length, .d true, .rows (List.map e_u8_i64 (v29001_2 ++ [(conv .u8 v29001_1, v29000_1)])), .n ((v29001_2 ++ [(conv .u8 v29001_1, v29000_1)]).length), .rows (List.map e_u8_i64 (v29001_2 ++ [(conv .u8 v29001_1, v29000_1)]))] [⟨(take_all e_u8_i64 (l := (v29001_2 ++ [(conv .u8 v29001_1, v29000_1)])) (n := ((v29001_2 ++ [(conv .u8 v29001_1, v29000_1)]).length)) rfl)⟩, ⟨(rfl : (v29001_2 ++ [(conv .u8 v29001_1, v29000_1)]).length = (v29001_2 ++ [(conv .u8 v29001_1, v29000_1)]).length)⟩, ⟨(zle ((v29001_2 ++ [(conv .u8 v29001_1, v29000_1)]).length))⟩, ⟨(app_map e_u8_i64 v29001_2 [(conv .u8 v29001_1, v29000_1)])⟩, ⟨(eqN_self v29001_2.length)⟩, ⟨(len_map e_u8_i64 v29001_2)⟩, ⟨cL3⟩, ⟨(by simp only [List.length_append, List.length_cons, List.length_nil, List.length_take, List.length_drop, List.length_set, List.length_replicate, List.length_map, List.map_nil, List.map_cons] <;> omega : v29001_2.length + (List.map e_u8_i64 [(conv .u8 v29001_1, v29000_1)]).length = (v29001_2 ++ [(conv .u8 v29001_1, v29000_1)]).length)⟩, ⟨(part_all e_u8_i64 (l := [(conv .u8 v29001_1, v29000_1)]) (n := 1) rfl)⟩, ⟨(le_map e_u8_i64 (Nat.le_refl 1) : 0 + 1 ≤ (List.map e_u8_i64 [(conv .u8 v29001_1, v29000_1)]).length)⟩, ⟨(nT cL2)⟩, ⟨(ok_ref08_sum k x1 (conv .u8 v29001_1) _ eL1)⟩, ⟨cL0⟩] (by kernel_rfl) (ok_ref08_Of_l0 x1 y k (iadd .i64 v29001_1 1) (v29001_2 ++ [(conv .u8 v29001_1, v29000_1)]) h)
        · rw [if_neg cL3] at h
          replace cL3 := eqf cL3
          cases h
    · rw [if_neg cL0] at h
      replace cL0 := eqf cL0
      obtain rfl := Option.some.inj h
      show LT _ _ _ _ (.st (.exit 0) (E29_0_0 v29001_2))
      exact LT.done mixed (hs := ⟨[], [], false, [], []⟩) (es := (some ⟨[(3, [])], [⟨.tmp 3, [], none⟩], false, [], []⟩)) [.d false] [⟨cL0⟩] (by kernel_rfl) (fun s h => by cases h)
theorem ok_ref08_Of (k : Nat) (x1 : List (Int × Int)) (r : (List (Int × Int))) (h : ref08_Of k x1 = some r) : Tri Try.prog 29 [(.sl 2 (List.map e_u8_i64 x1))] [] (.sl 2 (List.map e_u8_i64 r)) [] := by
    unfold ref08_Of at h
    obtain ⟨x3, e0, h⟩ := Option.bind_eq_some_iff.1 h
    obtain rfl := Option.some.inj h
    exact Tri.of (x := X29) mixed facts29 [.norm 2 ⟨[(0, []), (3, []), (4, [])], [⟨.tmp 3, [], some 2⟩], false, [], []⟩, .n 0, .rows (List.map e_u8_i64 []), .out (.st .normal (E29_0_0 x3)), .rows (List.map e_u8_i64 x3)] [⟨(part_all e_u8_i64 (l := x3) (n := x3.length) rfl)⟩, ⟨(le_map e_u8_i64 (Nat.le_refl x3.length) : 0 + x3.length ≤ (List.map e_u8_i64 x3).length)⟩, ⟨(LT.block (ok_ref08_Of_l0 x1 _ k 0 [] e0))⟩, ⟨(take_all e_u8_i64 (l := []) (n := 0) rfl)⟩, ⟨(rfl : 0 = 0)⟩, ⟨(zle 0)⟩] (by kernel_rfl)
end Go.Ws
