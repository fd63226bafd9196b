/-
  slices_Concat: what the machine makes of it. (Printed by my own program.)
  Conditions: none.
-/
import Derived.Test.YtnokdedppgmliaaZPre
import Derived.Test.YtnokdedppgmliaaZPure
import Derived.Test.YtnokdedppgmliaaZW36
set_option linter.unusedVariables false
set_option linter.unusedSimpArgs false
namespace Go.Ws
open Go.Proofs
set_option linter.unusedSimpArgs false
set_option linter.unusedVariables false
set_option maxRecDepth 1000000
set_option maxHeartbeats 4000000
noncomputable def X30 : Ctx := ⟨Try.f30, [], true⟩
noncomputable def L30_1 : Code := at_ Try.f30 [1, 1, 1, 1, 0, 1, 4, 5]
def S30_1 (x1 : List (List (Int × Int))) (v30011_1 : Int) (v30011_2 : List (Int × Int)) : St := ⟨mkT 36 [(6, (.ref 2 0 0 0 v30011_2.length .virt)), (25, (.sl 1 (List.map e_Lu8i64E x1))), (26, (.int .i64 (nI x1.length))), (27, (.int .i64 v30011_1))], [(.arr 2 (List.map e_u8_i64 v30011_2) 0 0 false)]⟩
def E30_1_2 (v30012_1 : List (Int × Int)) : St := ⟨mkT 36 [(6, (.ref 2 0 0 0 v30012_1.length .virt))], [(.arr 2 (List.map e_u8_i64 v30012_1) 0 0 false)]⟩
def O30_1 (x1 : List (List (Int × Int))) (y : ((List (Int × Int)))) : GX := .st (.exit 2) (E30_1_2 y)
noncomputable def L30_0 : Code := at_ Try.f30 [1, 1, 0, 1, 4, 5]
def S30_0 (x1 : List (List (Int × Int))) (v30001_1 : Int) (v30001_2 : Int) : St := ⟨mkT 36 [(0, (.sl 1 (List.map e_Lu8i64E x1))), (3, (.int .i64 v30001_1)), (9, (.sl 1 (List.map e_Lu8i64E x1))), (10, (.int .i64 (nI x1.length))), (11, (.int .i64 v30001_2))], []⟩
def E30_0_0 (x1 : List (List (Int × Int))) (v30002_1 : Int) : St := ⟨mkT 36 [(0, (.sl 1 (List.map e_Lu8i64E x1))), (3, (.int .i64 v30002_1))], []⟩
def O30_0 (x1 : List (List (Int × Int))) (y : (Int)) : GX := .st (.exit 0) (E30_0_0 x1 y)
theorem ok_slices_Concat_l1 (x1 : List (List (Int × Int))) (y : ((List (Int × Int)))) : ∀ (k : Nat) (v30011_1 : Int) (v30011_2 : List (Int × Int)), slices_Concat_l1 k x1 v30011_1 v30011_2 = some y → LT Try.prog X30 L30_1 (S30_1 x1 v30011_1 v30011_2) (O30_1 x1 y)
  | 0, v30011_1, v30011_2, h => by cases h
  | k + 1, v30011_1, v30011_2, h => by
    rw [slices_Concat_l1] at h
    by_cases cL0 : ltI v30011_1 (nI x1.length) = true
    · rw [if_pos cL0] at h
      by_cases cL1 : inI v30011_1 x1.length = true
      · rw [if_pos cL1] at h
        obtain ⟨v30010_1, eL2, h⟩ := Option.bind_eq_some_iff.1 h
        by_cases cL3 : roomI (((v30011_2 ++ v30010_1).length) * 16) = true
        · rw [if_pos cL3] at h
          exact LT.next mixed (hs := ⟨[(6, []), (25, []), (26, []), (27, [])], [⟨.tmp 6, [], none⟩], false, [], []⟩) (es := none) [.d true, .n x1.length, .row [(.sl 2 (List.map e_u8_i64 v30010_1))], .n ((v30011_2 ++ v30010_1).length), .n v30011_2.length, .d true, .rows (List.map e_u8_i64 (v30011_2 ++ v30010_1))] [⟨(app_map e_u8_i64 v30011_2 v30010_1)⟩, ⟨(eqN_self v30011_2.length)⟩, ⟨(len_map e_u8_i64 v30011_2)⟩, ⟨cL3⟩, ⟨(by simp only [List.length_append, List.length_cons, List.length_nil, List.length_take, List.length_drop, List.length_set, List.length_replicate, List.length_map, List.map_nil, List.map_cons] <;> omega : v30011_2.length + (List.map e_u8_i64 v30010_1).length = (v30011_2 ++ v30010_1).length)⟩, ⟨(cells_map (e := e_Lu8i64E) eL2 1 0 1 (by decide))⟩, ⟨cL1⟩, ⟨(len_map e_Lu8i64E x1)⟩, ⟨cL0⟩] (by kernel_rfl) (ok_slices_Concat_l1 x1 y k (iadd .i64 v30011_1 1) (v30011_2 ++ v30010_1) h)
        · rw [if_neg cL3] at h
          replace cL3 := eqf cL3
          cases h
      · rw [if_neg cL1] at h
        replace cL1 := eqf cL1
        cases h
    · rw [if_neg cL0] at h
      replace cL0 := eqf cL0
      obtain rfl := Option.some.inj h
      show LT _ _ _ _ (.st (.exit 2) (E30_1_2 v30011_2))
      exact LT.done mixed (hs := ⟨[], [], false, [], []⟩) (es := (some ⟨[(6, [])], [⟨.tmp 6, [], none⟩], false, [], []⟩)) [.d false] [⟨cL0⟩] (by kernel_rfl) (fun s h => by cases h)
theorem ok_slices_Concat_l0 (x1 : List (List (Int × Int))) (y : (Int)) : ∀ (k : Nat) (v30001_1 : Int) (v30001_2 : Int), slices_Concat_l0 k x1 v30001_1 v30001_2 = some y → LT Try.prog X30 L30_0 (S30_0 x1 v30001_1 v30001_2) (O30_0 x1 y)
  | 0, v30001_1, v30001_2, h => by cases h
  | k + 1, v30001_1, v30001_2, h => by
    rw [slices_Concat_l0] at h
    by_cases cL0 : ltI v30001_2 (nI x1.length) = true
    · rw [if_pos cL0] at h
      by_cases cL1 : inI v30001_2 x1.length = true
      · rw [if_pos cL1] at h
        obtain ⟨v30000_1, eL2, h⟩ := Option.bind_eq_some_iff.1 h
        by_cases cL3 : ltI (iadd .i64 v30001_1 (nI v30000_1.length)) 0 = true
        · rw [if_pos cL3] at h
          cases h
        · rw [if_neg cL3] at h
          replace cL3 := eqf cL3
          exact LT.next mixed (hs := ⟨[(0, []), (3, []), (9, []), (10, []), (11, [])], [], false, [], []⟩) (es := none) [.d true, .n x1.length, .row [(.sl 2 (List.map e_u8_i64 v30000_1))], .n v30000_1.length, .d false] [⟨cL3⟩, ⟨(len_map e_u8_i64 v30000_1)⟩, ⟨(cells_map (e := e_Lu8i64E) eL2 1 0 1 (by decide))⟩, ⟨cL1⟩, ⟨(len_map e_Lu8i64E x1)⟩, ⟨cL0⟩] (by kernel_rfl) (ok_slices_Concat_l0 x1 y k (iadd .i64 v30001_1 (nI v30000_1.length)) (iadd .i64 v30001_2 1) h)
      · rw [if_neg cL1] at h
        replace cL1 := eqf cL1
        cases h
    · rw [if_neg cL0] at h
      replace cL0 := eqf cL0
      obtain rfl := Option.some.inj h
      show LT _ _ _ _ (.st (.exit 0) (E30_0_0 x1 v30001_1))
      exact LT.done mixed (hs := ⟨[], [], false, [], []⟩) (es := (some ⟨[(0, []), (3, [])], [], false, [], []⟩)) [.d false] [⟨cL0⟩] (by kernel_rfl) (fun s h => by cases h)
theorem ok_slices_Concat (k : Nat) (x1 : List (List (Int × Int))) (r : (List (Int × Int))) (h : slices_Concat k x1 = some r) : Tri Try.prog 30 [(.sl 1 (List.map e_Lu8i64E x1))] [] (.sl 2 (List.map e_u8_i64 r)) [] := by
    unfold slices_Concat at h
    obtain ⟨x3, e0, h⟩ := Option.bind_eq_some_iff.1 h
    obtain ⟨x4, e2, h⟩ := Option.bind_eq_some_iff.1 h
    obtain ⟨x6, e3, h⟩ := Option.bind_eq_some_iff.1 h
    obtain rfl := Option.some.inj h
    exact Tri.of (x := X30) mixed facts30 [.n x1.length, .norm 2 ⟨[(0, []), (3, []), (9, []), (10, []), (11, [])], [], false, [], []⟩, .out (.st .normal (E30_0_0 x1 x3)), .call ⟨true, []⟩ (.ref 2 0 0 0 x4.length .virt) [(.arr 2 (List.map e_u8_i64 x4) 0 0 false)], .n x1.length, .norm 8 ⟨[(6, []), (25, []), (26, []), (27, [])], [⟨.tmp 6, [], none⟩], false, [], []⟩, .out (.st .normal (E30_1_2 x6)), .rows (List.map e_u8_i64 x6)] [⟨(part_all e_u8_i64 (l := x6) (n := x6.length) rfl)⟩, ⟨(le_map e_u8_i64 (Nat.le_refl x6.length) : 0 + x6.length ≤ (List.map e_u8_i64 x6).length)⟩, ⟨(LT.block (ok_slices_Concat_l1 x1 _ k 0 x4 e3))⟩, ⟨(len_map e_Lu8i64E x1)⟩, ⟨(ok_slices_Grow k x3 _ e2)⟩, ⟨(LT.block (ok_slices_Concat_l0 x1 _ k 0 0 e0))⟩, ⟨(len_map e_Lu8i64E x1)⟩] (by kernel_rfl)
end Go.Ws
