/-
  ref09_opposites: what the machine makes of it. (Printed by my own program.)
  Conditions: none.
-/
import Derived.Test.YtnokdedppgmliaaZPre
import Derived.Test.YtnokdedppgmliaaZPure
set_option linter.unusedVariables false
set_option linter.unusedSimpArgs false
namespace Go.Ws
open Go.Proofs
set_option linter.unusedSimpArgs false
set_option linter.unusedVariables false
set_option maxRecDepth 1000000
set_option maxHeartbeats 4000000
noncomputable def X32 : Ctx := ⟨Try.f32, [], true⟩
noncomputable def L32_0 : Code := at_ Try.f32 [1, 1, 0, 1, 4, 5]
def S32_0 (x1 : List (Int × Int)) (v32001_1 : Int) (v32001_2 : List (Int × Int)) : St := ⟨mkT 28 [(0, (.sl 2 (List.map e_u8_i64 x1))), (3, (.ref 2 0 0 0 v32001_2.length .virt)), (4, (.int .i64 v32001_1))], [(.arr 2 (List.map e_u8_i64 v32001_2) 0 0 false)]⟩
def E32_0_0 (v32002_1 : List (Int × Int)) : St := ⟨mkT 28 [(3, (.ref 2 0 0 0 v32002_1.length .virt))], [(.arr 2 (List.map e_u8_i64 v32002_1) 0 0 false)]⟩
def O32_0 (x1 : List (Int × Int)) (y : ((List (Int × Int)))) : GX := .st (.exit 0) (E32_0_0 y)
theorem ok_ref09_opposites_l0 (x1 : List (Int × Int)) (y : ((List (Int × Int)))) : ∀ (k : Nat) (v32001_1 : Int) (v32001_2 : List (Int × Int)), ref09_opposites_l0 k x1 v32001_1 v32001_2 = some y → LT Try.prog X32 L32_0 (S32_0 x1 v32001_1 v32001_2) (O32_0 x1 y)
  | 0, v32001_1, v32001_2, h => by cases h
  | k + 1, v32001_1, v32001_2, h => by
    rw [ref09_opposites_l0] at h
    by_cases cL0 : ltI v32001_1 0 = true
    · rw [if_pos cL0] at h
      obtain rfl := Option.some.inj h
      show LT _ _ _ _ (.st (.exit 0) (E32_0_0 v32001_2))
      exact LT.done mixed (hs := ⟨[], [], false, [], []⟩) (es := (some ⟨[(3, [])], [⟨.tmp 3, [], none⟩], false, [], []⟩)) [.d false] [⟨(nF cL0)⟩] (by kernel_rfl) (fun s h => by cases h)
    · rw [if_neg cL0] at h
      replace cL0 := eqf cL0
      by_cases cL1 : inI v32001_1 x1.length = true
      · rw [if_pos cL1] at h
        obtain ⟨v32000_1, eL2, h⟩ := Option.bind_eq_some_iff.1 h
        by_cases cL3 : roomI (((v32001_2 ++ [(v32000_1.1, ineg .i64 v32000_1.2)]).length) * 16) = true
        · rw [if_pos cL3] at h
          exact LT.next mixed (hs := ⟨[(0, []), (3, []), (4, [])], [⟨.tmp 3, [], some 2⟩], false, [], []⟩) (es := none) [.d true, .n x1.length, .row [(.int .u8 v32000_1.1)], .n x1.length, .row [(.int .i64 v32000_1.2)], .rows (List.map e_u8_i64 [(v32000_1.1, ineg .i64 v32000_1.2)]), .n ((v32001_2 ++ [(v32000_1.1, ineg .i64 v32000_1.2)]).length), .n v32001_2.length, .d true, .rows (List.map e_u8_i64 (v32001_2 ++ [(v32000_1.1, ineg .i64 v32000_1.2)])), .n ((v32001_2 ++ [(v32000_1.1, ineg .i64 v32000_1.2)]).length), .rows (List.map e_u8_i64 (v32001_2 ++ [(v32000_1.1, ineg .i64 v32000_1.2)]))] [⟨(take_all e_u8_i64 (l := (v32001_2 ++ [(v32000_1.1, ineg .i64 v32000_1.2)])) (n := ((v32001_2 ++ [(v32000_1.1, ineg .i64 v32000_1.2)]).length)) rfl)⟩, ⟨(rfl : (v32001_2 ++ [(v32000_1.1, ineg .i64 v32000_1.2)]).length = (v32001_2 ++ [(v32000_1.1, ineg .i64 v32000_1.2)]).length)⟩, ⟨(zle ((v32001_2 ++ [(v32000_1.1, ineg .i64 v32000_1.2)]).length))⟩, ⟨(app_map e_u8_i64 v32001_2 [(v32000_1.1, ineg .i64 v32000_1.2)])⟩, ⟨(eqN_self v32001_2.length)⟩, ⟨(len_map e_u8_i64 v32001_2)⟩, ⟨cL3⟩, ⟨(by simp only [List.length_append, List.length_cons, List.length_nil, List.length_take, List.length_drop, List.length_set, List.length_replicate, List.length_map, List.map_nil, List.map_cons] <;> omega : v32001_2.length + (List.map e_u8_i64 [(v32000_1.1, ineg .i64 v32000_1.2)]).length = (v32001_2 ++ [(v32000_1.1, ineg .i64 v32000_1.2)]).length)⟩, ⟨(part_all e_u8_i64 (l := [(v32000_1.1, ineg .i64 v32000_1.2)]) (n := 1) rfl)⟩, ⟨(le_map e_u8_i64 (Nat.le_refl 1) : 0 + 1 ≤ (List.map e_u8_i64 [(v32000_1.1, ineg .i64 v32000_1.2)]).length)⟩, ⟨(cells_map (e := e_u8_i64) eL2 2 1 1 (by decide))⟩, ⟨cL1⟩, ⟨(len_map e_u8_i64 x1)⟩, ⟨(cells_map (e := e_u8_i64) eL2 2 0 1 (by decide))⟩, ⟨cL1⟩, ⟨(len_map e_u8_i64 x1)⟩, ⟨(nT cL0)⟩] (by kernel_rfl) (ok_ref09_opposites_l0 x1 y k (isub .i64 v32001_1 1) (v32001_2 ++ [(v32000_1.1, ineg .i64 v32000_1.2)]) h)
        · rw [if_neg cL3] at h
          replace cL3 := eqf cL3
          cases h
      · rw [if_neg cL1] at h
        replace cL1 := eqf cL1
        cases h
theorem ok_ref09_opposites (k : Nat) (x1 : List (Int × Int)) (r : (List (Int × Int))) (h : ref09_opposites k x1 = some r) : Tri Try.prog 32 [(.sl 2 (List.map e_u8_i64 x1))] [] (.sl 2 (List.map e_u8_i64 r)) [] := by
    unfold ref09_opposites at h
    obtain ⟨x3, e0, h⟩ := Option.bind_eq_some_iff.1 h
    obtain rfl := Option.some.inj h
    exact Tri.of (x := X32) mixed facts32 [.n x1.length, .norm 2 ⟨[(0, []), (3, []), (4, [])], [⟨.tmp 3, [], some 2⟩], false, [], []⟩, .n 0, .rows (List.map e_u8_i64 []), .out (.st .normal (E32_0_0 x3)), .rows (List.map e_u8_i64 x3)] [⟨(part_all e_u8_i64 (l := x3) (n := x3.length) rfl)⟩, ⟨(le_map e_u8_i64 (Nat.le_refl x3.length) : 0 + x3.length ≤ (List.map e_u8_i64 x3).length)⟩, ⟨(LT.block (ok_ref09_opposites_l0 x1 _ k (isub .i64 (nI x1.length) 1) [] e0))⟩, ⟨(take_all e_u8_i64 (l := []) (n := 0) rfl)⟩, ⟨(rfl : 0 = 0)⟩, ⟨(zle 0)⟩, ⟨(len_map e_u8_i64 x1)⟩] (by kernel_rfl)
end Go.Ws
