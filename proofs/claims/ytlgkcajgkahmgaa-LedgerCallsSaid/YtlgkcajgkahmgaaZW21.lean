/-
  ref08_Less: what the machine makes of it. (Printed by my own program.)
  Conditions: none.
-/
import Derived.Test.YtlgkcajgkahmgaaZPre
import Derived.Test.YtlgkcajgkahmgaaZPure
import Derived.Test.YtlgkcajgkahmgaaZW10
set_option linter.unusedVariables false
set_option linter.unusedSimpArgs false
namespace Go.Ws
open Go.Proofs
set_option linter.unusedSimpArgs false
set_option linter.unusedVariables false
set_option maxRecDepth 1000000
set_option maxHeartbeats 4000000
noncomputable def X21 : Ctx := ⟨Try.f21, [], true⟩
noncomputable def L21_0 : Code := at_ Try.f21 [1, 1, 1, 0, 1, 4, 5]
def S21_0 (x1 : List (Int × Int)) (v21001_1 : Int) (v21001_2 : List (Int × Int)) : St := ⟨mkT 31 [(0, (.sl 2 (List.map e_u8_i64 x1))), (4, (.ref 2 0 0 0 v21001_2.length .virt)), (5, (.int .i64 v21001_1))], [(.arr 2 (List.map e_u8_i64 v21001_2) 0 0 false)]⟩
def E21_0_0 (v21002_1 : List (Int × Int)) : St := ⟨mkT 31 [(4, (.ref 2 0 0 0 v21002_1.length .virt))], [(.arr 2 (List.map e_u8_i64 v21002_1) 0 0 false)]⟩
def O21_0 (x1 : List (Int × Int)) (y : ((List (Int × Int)))) : GX := .st (.exit 0) (E21_0_0 y)
theorem ok_ref08_Less_l0 (x1 : List (Int × Int)) (y : ((List (Int × Int)))) : ∀ (k : Nat) (v21001_1 : Int) (v21001_2 : List (Int × Int)), ref08_Less_l0 k x1 v21001_1 v21001_2 = some y → LT Try.prog X21 L21_0 (S21_0 x1 v21001_1 v21001_2) (O21_0 x1 y)
  | 0, v21001_1, v21001_2, h => by cases h
  | k + 1, v21001_1, v21001_2, h => by
    rw [ref08_Less_l0] at h
    by_cases cL0 : ltI v21001_1 (nI x1.length) = true
    · rw [if_pos cL0] at h
      by_cases cL1 : inI v21001_1 x1.length = true
      · rw [if_pos cL1] at h
        obtain ⟨v21000_1, eL2, h⟩ := Option.bind_eq_some_iff.1 h
        by_cases cL3 : roomI (((v21001_2 ++ [(v21000_1.1, ineg .i64 v21000_1.2)]).length) * 16) = true
        · rw [if_pos cL3] at h
          exact LT.next mixed (hs := ⟨[(0, []), (4, []), (5, [])], [⟨.tmp 4, [], some 2⟩], false, [], []⟩) (es := none) [.n x1.length, .d true, .n x1.length, .row [(.int .u8 v21000_1.1)], .n x1.length, .row [(.int .i64 v21000_1.2)], .rows (List.map e_u8_i64 [(v21000_1.1, ineg .i64 v21000_1.2)]), .n ((v21001_2 ++ [(v21000_1.1, ineg .i64 v21000_1.2)]).length), .n v21001_2.length, .d true, .rows (List.map e_u8_i64 (v21001_2 ++ [(v21000_1.1, ineg .i64 v21000_1.2)])), .n ((v21001_2 ++ [(v21000_1.1, ineg .i64 v21000_1.2)]).length), .rows (List.map e_u8_i64 (v21001_2 ++ [(v21000_1.1, ineg .i64 v21000_1.2)]))] [⟨(take_all e_u8_i64 (l := (v21001_2 ++ [(v21000_1.1, ineg .i64 v21000_1.2)])) (n := ((v21001_2 ++ [(v21000_1.1, ineg .i64 v21000_1.2)]).length)) rfl)⟩, ⟨(rfl : (v21001_2 ++ [(v21000_1.1, ineg .i64 v21000_1.2)]).length = (v21001_2 ++ [(v21000_1.1, ineg .i64 v21000_1.2)]).length)⟩, ⟨(zle ((v21001_2 ++ [(v21000_1.1, ineg .i64 v21000_1.2)]).length))⟩, ⟨(app_map e_u8_i64 v21001_2 [(v21000_1.1, ineg .i64 v21000_1.2)])⟩, ⟨(eqN_self v21001_2.length)⟩, ⟨(len_map e_u8_i64 v21001_2)⟩, ⟨cL3⟩, ⟨(by simp only [List.length_append, List.length_cons, List.length_nil, List.length_take, List.length_drop, List.length_set, List.length_replicate, List.length_map, List.map_nil, List.map_cons] <;> omega : v21001_2.length + (List.map e_u8_i64 [(v21000_1.1, ineg .i64 v21000_1.2)]).length = (v21001_2 ++ [(v21000_1.1, ineg .i64 v21000_1.2)]).length)⟩, ⟨(part_all e_u8_i64 (l := [(v21000_1.1, ineg .i64 v21000_1.2)]) (n := 1) rfl)⟩, ⟨(le_map e_u8_i64 (Nat.le_refl 1) : 0 + 1 ≤ (List.map e_u8_i64 [(v21000_1.1, ineg .i64 v21000_1.2)]).length)⟩, ⟨(cells_map (e := e_u8_i64) eL2 2 1 1 (by decide))⟩, ⟨cL1⟩, ⟨(len_map e_u8_i64 x1)⟩, ⟨(cells_map (e := e_u8_i64) eL2 2 0 1 (by decide))⟩, ⟨cL1⟩, ⟨(len_map e_u8_i64 x1)⟩, ⟨cL0⟩, ⟨(len_map e_u8_i64 x1)⟩] (by kernel_rfl) (ok_ref08_Less_l0 x1 y k (iadd .i64 v21001_1 1) (v21001_2 ++ [(v21000_1.1, ineg .i64 v21000_1.2)]) h)
        · rw [if_neg cL3] at h
          replace cL3 := eqf cL3
          cases h
      · rw [if_neg cL1] at h
        replace cL1 := eqf cL1
        cases h
    · rw [if_neg cL0] at h
      replace cL0 := eqf cL0
      obtain rfl := Option.some.inj h
      show LT _ _ _ _ (.st (.exit 0) (E21_0_0 v21001_2))
      exact LT.done mixed (hs := ⟨[], [], false, [], []⟩) (es := (some ⟨[(4, [])], [⟨.tmp 4, [], none⟩], false, [], []⟩)) [.n x1.length, .d false] [⟨cL0⟩, ⟨(len_map e_u8_i64 x1)⟩] (by kernel_rfl) (fun s h => by cases h)
theorem ok_ref08_Less (k : Nat) (x1 : List (Int × Int)) (r : (List (Int × Int)) × Int) (h : ref08_Less k x1 = some r) : Tri Try.prog 21 [(.sl 2 (List.map e_u8_i64 x1))] [] (.tup [(.sl 2 (List.map e_u8_i64 r.1)), (.int .i64 r.2)]) [] := by
    unfold ref08_Less at h
    obtain ⟨x2, e0, h⟩ := Option.bind_eq_some_iff.1 h
    by_cases c1 : x2 = true
    · rw [if_pos c1] at h
      obtain ⟨x4, e2, h⟩ := Option.bind_eq_some_iff.1 h
      obtain rfl := Option.some.inj h
      exact Tri.of (x := X21) mixed facts21 [.call ⟨true, []⟩ (.bool x2) [], .d false, .norm 2 ⟨[(0, []), (4, []), (5, [])], [⟨.tmp 4, [], some 2⟩], false, [], []⟩, .n 0, .rows (List.map e_u8_i64 []), .out (.st .normal (E21_0_0 x4)), .rows (List.map e_u8_i64 x4)] [⟨(part_all e_u8_i64 (l := x4) (n := x4.length) rfl)⟩, ⟨(le_map e_u8_i64 (Nat.le_refl x4.length) : 0 + x4.length ≤ (List.map e_u8_i64 x4).length)⟩, ⟨(LT.block (ok_ref08_Less_l0 x1 _ k 0 [] e2))⟩, ⟨(take_all e_u8_i64 (l := []) (n := 0) rfl)⟩, ⟨(rfl : 0 = 0)⟩, ⟨(zle 0)⟩, ⟨(nF c1)⟩, ⟨(ok_ref08_Right k x1 _ e0)⟩] (by kernel_rfl)
    · rw [if_neg c1] at h
      replace c1 := eqf c1
      obtain rfl := Option.some.inj h
      exact Tri.of (x := X21) mixed facts21 [.call ⟨true, []⟩ (.bool x2) [], .d true, .norm 0 ⟨[(2, [(0, 2)]), (3, [])], [], false, [], []⟩] [⟨(nT c1)⟩, ⟨(ok_ref08_Right k x1 _ e0)⟩] (by kernel_rfl)
end Go.Ws
