/-
  ref08_Put: what the machine makes of it. (Printed by my own program.)
  Conditions: none.
-/
import Derived.Test.YtlgkcajgkahmgaaZPre
import Derived.Test.YtlgkcajgkahmgaaZPure
import Derived.Test.YtlgkcajgkahmgaaZW10
import Derived.Test.YtlgkcajgkahmgaaZW29
set_option linter.unusedVariables false
set_option linter.unusedSimpArgs false
namespace Go.Ws
open Go.Proofs
set_option linter.unusedSimpArgs false
set_option linter.unusedVariables false
set_option maxRecDepth 1000000
set_option maxHeartbeats 4000000
noncomputable def X17 : Ctx := ⟨Try.f17, [], true⟩
noncomputable def L17_0 : Code := at_ Try.f17 [1, 1, 0, 1, 4, 5]
def S17_0 (x1 : List (Int × Int)) (x2 : List (Int × Int)) (v17001_1 : Int) : St := ⟨mkT 33 [(0, (.sl 2 (List.map e_u8_i64 x1))), (1, (.sl 2 (List.map e_u8_i64 x2))), (6, (.int .i64 v17001_1))], []⟩
def E17_0_0 (x1 : List (Int × Int)) (x2 : List (Int × Int)) : St := ⟨mkT 33 [(0, (.sl 2 (List.map e_u8_i64 x1))), (1, (.sl 2 (List.map e_u8_i64 x2)))], []⟩
def O17_0 (x1 : List (Int × Int)) (x2 : List (Int × Int)) (y : (Sum (Unit) ((List (Int × Int)) × Int))) : GX := match y with
  | .inl y => .st (.exit 0) (E17_0_0 x1 x2)
  | .inr y => .fin (.tup [(.sl 2 (List.map e_u8_i64 y.1)), (.int .i64 y.2)]) []
theorem ok_ref08_Put_l0 (x1 : List (Int × Int)) (x2 : List (Int × Int)) (y : (Sum (Unit) ((List (Int × Int)) × Int))) : ∀ (k : Nat) (v17001_1 : Int), ref08_Put_l0 k x1 x2 v17001_1 = some y → LT Try.prog X17 L17_0 (S17_0 x1 x2 v17001_1) (O17_0 x1 x2 y)
  | 0, v17001_1, h => by cases h
  | k + 1, v17001_1, h => by
    rw [ref08_Put_l0] at h
    by_cases cL0 : ltI v17001_1 (nI x2.length) = true
    · rw [if_pos cL0] at h
      by_cases cL1 : inI v17001_1 x2.length = true
      · rw [if_pos cL1] at h
        obtain ⟨v17000_1, eL2, h⟩ := Option.bind_eq_some_iff.1 h
        by_cases cL3 : ltI v17000_1.1 64 = true
        · rw [if_pos cL3] at h
          exact LT.next mixed (hs := ⟨[(0, []), (1, []), (6, [])], [], false, [], []⟩) (es := none) [.n x2.length, .d true, .n x2.length, .row [(.int .u8 v17000_1.1)], .d false] [⟨(nF cL3)⟩, ⟨(cells_map (e := e_u8_i64) eL2 2 0 1 (by decide))⟩, ⟨cL1⟩, ⟨(len_map e_u8_i64 x2)⟩, ⟨cL0⟩, ⟨(len_map e_u8_i64 x2)⟩] (by kernel_rfl) (ok_ref08_Put_l0 x1 x2 y k (iadd .i64 v17001_1 1) h)
        · rw [if_neg cL3] at h
          replace cL3 := eqf cL3
          obtain rfl := Option.some.inj h
          show LT _ _ _ _ (.fin (.tup [(.sl 2 (List.map e_u8_i64 ((x1, 2).1))), (.int .i64 ((x1, 2).2))]) [])
          exact LT.done mixed (hs := ⟨[], [], false, [], []⟩) (es := none) [.n x2.length, .d true, .n x2.length, .row [(.int .u8 v17000_1.1)], .d true] [⟨(nT cL3)⟩, ⟨(cells_map (e := e_u8_i64) eL2 2 0 1 (by decide))⟩, ⟨cL1⟩, ⟨(len_map e_u8_i64 x2)⟩, ⟨cL0⟩, ⟨(len_map e_u8_i64 x2)⟩] (by kernel_rfl) (fun s h => by cases h)
      · rw [if_neg cL1] at h
        replace cL1 := eqf cL1
        cases h
    · rw [if_neg cL0] at h
      replace cL0 := eqf cL0
      obtain rfl := Option.some.inj h
      show LT _ _ _ _ (.st (.exit 0) (E17_0_0 x1 x2))
      exact LT.done mixed (hs := ⟨[], [], false, [], []⟩) (es := (some ⟨[(0, []), (1, [])], [], false, [], []⟩)) [.n x2.length, .d false] [⟨cL0⟩, ⟨(len_map e_u8_i64 x2)⟩] (by kernel_rfl) (fun s h => by cases h)
theorem ok_ref08_Put (k : Nat) (x1 : List (Int × Int)) (x2 : List (Int × Int)) (r : (List (Int × Int)) × Int) (h : ref08_Put k x1 x2 = some r) : Tri Try.prog 17 [(.sl 2 (List.map e_u8_i64 x1)), (.sl 2 (List.map e_u8_i64 x2))] [] (.tup [(.sl 2 (List.map e_u8_i64 r.1)), (.int .i64 r.2)]) [] := by
    unfold ref08_Put at h
    obtain ⟨x3, e0, h⟩ := Option.bind_eq_some_iff.1 h
    by_cases c1 : x3 = true
    · rw [if_pos c1] at h
      obtain ⟨x4, e2, h⟩ := Option.bind_eq_some_iff.1 h
      cases x4 with
      | inl x5 =>
        simp only [Sum.elim_inl] at h
        by_cases c4 : roomI (x1.length * 16) = true
        · rw [if_pos c4] at h
          by_cases c5 : roomI (((x1 ++ x2).length) * 16) = true
          · rw [if_pos c5] at h
            obtain ⟨x6, e6, h⟩ := Option.bind_eq_some_iff.1 h
            obtain rfl := Option.some.inj h
            exact Tri.of (x := X17) mixed facts17 [.call ⟨true, []⟩ (.bool x3) [], .d false, .norm 2 ⟨[(0, []), (1, []), (6, [])], [], false, [], []⟩, .out (.st .normal (E17_0_0 x1 x2)), .n x1.length, .n ((x1 ++ x2).length), .n x1.length, .d true, .rows (List.map e_u8_i64 (x1 ++ x2)), .call ⟨true, []⟩ (.sl 2 (List.map e_u8_i64 x6)) [], .rows (List.map e_u8_i64 (x1 ++ x2))] [⟨(ok_ref08_Of k (x1 ++ x2) _ e6)⟩, ⟨(part_all e_u8_i64 (l := (x1 ++ x2)) (n := ((x1 ++ x2).length)) rfl)⟩, ⟨(le_map e_u8_i64 (Nat.le_refl ((x1 ++ x2).length)) : 0 + (x1 ++ x2).length ≤ (List.map e_u8_i64 (x1 ++ x2)).length)⟩, ⟨(app_map e_u8_i64 x1 x2)⟩, ⟨(eqN_self x1.length)⟩, ⟨(len_map e_u8_i64 x1)⟩, ⟨c5⟩, ⟨(by simp only [List.length_append, List.length_cons, List.length_nil, List.length_take, List.length_drop, List.length_set, List.length_replicate, List.length_map, List.map_nil, List.map_cons] <;> omega : x1.length + (List.map e_u8_i64 x2).length = (x1 ++ x2).length)⟩, ⟨c4⟩, ⟨(len_map e_u8_i64 x1)⟩, ⟨(LT.block (ok_ref08_Put_l0 x1 x2 _ k 0 e2))⟩, ⟨(nF c1)⟩, ⟨(ok_ref08_Right k x1 _ e0)⟩] (by kernel_rfl)
          · rw [if_neg c5] at h
            replace c5 := eqf c5
            cases h
        · rw [if_neg c4] at h
          replace c4 := eqf c4
          cases h
      | inr x5 =>
        simp only [Sum.elim_inr] at h
        obtain rfl := Option.some.inj h
        exact Tri.of (x := X17) mixed facts17 [.call ⟨true, []⟩ (.bool x3) [], .d false, .norm 2 ⟨[(0, []), (1, []), (6, [])], [], false, [], []⟩, .out (.fin (.tup [(.sl 2 (List.map e_u8_i64 x5.1)), (.int .i64 x5.2)]) [])] [⟨(LT.blockFin (id := 0) (ok_ref08_Put_l0 x1 x2 _ k 0 e2))⟩, ⟨(nF c1)⟩, ⟨(ok_ref08_Right k x1 _ e0)⟩] (by kernel_rfl)
    · rw [if_neg c1] at h
      replace c1 := eqf c1
      obtain rfl := Option.some.inj h
      exact Tri.of (x := X17) mixed facts17 [.call ⟨true, []⟩ (.bool x3) [], .d true] [⟨(nT c1)⟩, ⟨(ok_ref08_Right k x1 _ e0)⟩] (by kernel_rfl)
end Go.Ws
