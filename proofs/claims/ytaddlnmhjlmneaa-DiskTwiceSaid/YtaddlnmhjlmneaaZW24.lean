/-
  disk_Renew: what the machine makes of it. (Printed by my own program.)
  Conditions: none.
-/
import Derived.Test.YtaddlnmhjlmneaaZPre
import Derived.Test.YtaddlnmhjlmneaaZPure
import Derived.Test.YtaddlnmhjlmneaaZW26_1
import Derived.Test.YtaddlnmhjlmneaaZW27
set_option linter.unusedVariables false
set_option linter.unusedSimpArgs false
namespace Go.Ws
open Go.Proofs
set_option linter.unusedSimpArgs false
set_option linter.unusedVariables false
set_option maxRecDepth 1000000
set_option maxHeartbeats 4000000
noncomputable def X24 : Ctx := ⟨Try.f24, [], true⟩
noncomputable def L24_0 : Code := at_ Try.f24 [1, 1, 0, 1, 4, 5]
def S24_0 (x1 : List Int) (x2 : Int) (x3 : Int) (x4 : List (List Int)) (v24001_1 : Int) (v24001_2 : List Int) : St := ⟨mkT 50 [(2, (.hp 0 0)), (4, (.hp 1 0)), (6, (.ref 1 2 0 0 v24001_2.length .virt)), (11, (.sl 1 (List.map e_Lu8E x4))), (12, (.int .i64 (nI x4.length))), (13, (.int .i64 v24001_1))], [(.row [(.sl 1 (List.map e_u8 x1)), (.int .i64 x2), (.int .i64 x3)]), (.row [.nils, (.int .i64 0), (.int .i64 0)]), (.arr 1 (List.map e_u8 v24001_2) 0 0 false)]⟩
def E24_0_0 (x1 : List Int) (x2 : Int) (x3 : Int) (v24002_1 : List Int) : St := ⟨mkT 50 [(2, (.hp 0 0)), (4, (.hp 1 0)), (6, (.ref 1 2 0 0 v24002_1.length .virt))], [(.row [(.sl 1 (List.map e_u8 x1)), (.int .i64 x2), (.int .i64 x3)]), (.row [.nils, (.int .i64 0), (.int .i64 0)]), (.arr 1 (List.map e_u8 v24002_1) 0 0 false)]⟩
def O24_0 (x1 : List Int) (x2 : Int) (x3 : Int) (x4 : List (List Int)) (y : (Sum ((List Int)) ((List Int) × Int × Int × Int))) : GX := match y with
  | .inl y => .st (.exit 0) (E24_0_0 x1 x2 x3 y)
  | .inr y => .fin (.tup [(.agg [(.sl 1 (List.map e_u8 y.1)), (.int .i64 y.2.1), (.int .i64 y.2.2.1)]), (.int .i64 y.2.2.2)]) []
theorem ok_disk_Renew_l0 (x1 : List Int) (x2 : Int) (x3 : Int) (x4 : List (List Int)) (y : (Sum ((List Int)) ((List Int) × Int × Int × Int))) : ∀ (k : Nat) (v24001_1 : Int) (v24001_2 : List Int), disk_Renew_l0 k x1 x2 x3 x4 v24001_1 v24001_2 = some y → LT Try.prog X24 L24_0 (S24_0 x1 x2 x3 x4 v24001_1 v24001_2) (O24_0 x1 x2 x3 x4 y)
  | 0, v24001_1, v24001_2, h => by cases h
  | k + 1, v24001_1, v24001_2, h => by
    rw [disk_Renew_l0] at h
    by_cases cL0 : ltI v24001_1 (nI x4.length) = true
    · rw [if_pos cL0] at h
      by_cases cL1 : inI v24001_1 x4.length = true
      · rw [if_pos cL1] at h
        obtain ⟨v24000_1, eL2, h⟩ := Option.bind_eq_some_iff.1 h
        obtain ⟨v24000_2, eL3, h⟩ := Option.bind_eq_some_iff.1 h
        by_cases cL4 : eqI v24000_2.2 0 = true
        · rw [if_pos cL4] at h
          by_cases cL5 : roomI (((v24001_2 ++ v24000_2.1).length) * 1) = true
          · rw [if_pos cL5] at h
            exact LT.next mixed (hs := ⟨[(2, []), (4, []), (6, []), (11, []), (12, []), (13, [])], [⟨.tmp 2, [], none⟩, ⟨.tmp 4, [], none⟩, ⟨.tmp 6, [], some 1⟩], false, [], []⟩) (es := none) [.d true, .n x4.length, .row [(.sl 1 (List.map e_u8 v24000_1))], .call ⟨true, []⟩ (.tup [(.sl 1 (List.map e_u8 v24000_2.1)), (.int .i64 v24000_2.2)]) [], .d false, .n ((v24001_2 ++ v24000_2.1).length), .n v24001_2.length, .d true, .rows (List.map e_u8 (v24001_2 ++ v24000_2.1)), .n ((v24001_2 ++ v24000_2.1).length), .rows (List.map e_u8 (v24001_2 ++ v24000_2.1))] [⟨(take_all e_u8 (l := (v24001_2 ++ v24000_2.1)) (n := ((v24001_2 ++ v24000_2.1).length)) rfl)⟩, ⟨(rfl : (v24001_2 ++ v24000_2.1).length = (v24001_2 ++ v24000_2.1).length)⟩, ⟨(zle ((v24001_2 ++ v24000_2.1).length))⟩, ⟨(app_map e_u8 v24001_2 v24000_2.1)⟩, ⟨(eqN_self v24001_2.length)⟩, ⟨(len_map e_u8 v24001_2)⟩, ⟨cL5⟩, ⟨(by simp only [List.length_append, List.length_cons, List.length_nil, List.length_take, List.length_drop, List.length_set, List.length_replicate, List.length_map, List.map_nil, List.map_cons] <;> omega : v24001_2.length + (List.map e_u8 v24000_2.1).length = (v24001_2 ++ v24000_2.1).length)⟩, ⟨(nF cL4)⟩, ⟨(ok_sum_Frame k v24000_1 _ eL3)⟩, ⟨(cells_map (e := e_Lu8E) eL2 1 0 1 (by decide))⟩, ⟨cL1⟩, ⟨(len_map e_Lu8E x4)⟩, ⟨cL0⟩] (by kernel_rfl) (ok_disk_Renew_l0 x1 x2 x3 x4 y k (iadd .i64 v24001_1 1) (v24001_2 ++ v24000_2.1) h)
          · rw [if_neg cL5] at h
            replace cL5 := eqf cL5
            cases h
        · rw [if_neg cL4] at h
          replace cL4 := eqf cL4
          obtain ⟨v24000_3, eL5, h⟩ := Option.bind_eq_some_iff.1 h
          obtain rfl := Option.some.inj h
          show LT _ _ _ _ (.fin (.tup [(.agg [(.sl 1 (List.map e_u8 ((v24000_3.1, v24000_3.2.1, v24000_3.2.2, v24000_2.2).1))), (.int .i64 ((v24000_3.1, v24000_3.2.1, v24000_3.2.2, v24000_2.2).2.1)), (.int .i64 ((v24000_3.1, v24000_3.2.1, v24000_3.2.2, v24000_2.2).2.2.1))]), (.int .i64 ((v24000_3.1, v24000_3.2.1, v24000_3.2.2, v24000_2.2).2.2.2))]) [])
          exact LT.done mixed (hs := ⟨[], [], false, [], []⟩) (es := none) [.d true, .n x4.length, .row [(.sl 1 (List.map e_u8 v24000_1))], .call ⟨true, []⟩ (.tup [(.sl 1 (List.map e_u8 v24000_2.1)), (.int .i64 v24000_2.2)]) [], .d true, .n x1.length, .call ⟨true, []⟩ (.agg [(.sl 1 (List.map e_u8 v24000_3.1)), (.int .i64 v24000_3.2.1), (.int .i64 v24000_3.2.2)]) []] [⟨(ok_disk_Disk_own_1 k x1 x2 x3 (nI x1.length) _ eL5)⟩, ⟨(len_map e_u8 x1)⟩, ⟨(nT cL4)⟩, ⟨(ok_sum_Frame k v24000_1 _ eL3)⟩, ⟨(cells_map (e := e_Lu8E) eL2 1 0 1 (by decide))⟩, ⟨cL1⟩, ⟨(len_map e_Lu8E x4)⟩, ⟨cL0⟩] (by kernel_rfl) (fun s h => by cases h)
      · rw [if_neg cL1] at h
        replace cL1 := eqf cL1
        cases h
    · rw [if_neg cL0] at h
      replace cL0 := eqf cL0
      obtain rfl := Option.some.inj h
      show LT _ _ _ _ (.st (.exit 0) (E24_0_0 x1 x2 x3 v24001_2))
      exact LT.done mixed (hs := ⟨[], [], false, [], []⟩) (es := (some ⟨[(2, []), (4, []), (6, [])], [⟨.tmp 2, [], none⟩, ⟨.tmp 4, [], none⟩, ⟨.tmp 6, [], none⟩], false, [], []⟩)) [.d false] [⟨cL0⟩] (by kernel_rfl) (fun s h => by cases h)
theorem ok_disk_Renew (k : Nat) (x1 : List Int) (x2 : Int) (x3 : Int) (x4 : List (List Int)) (r : (List Int) × Int × Int × Int) (h : disk_Renew k x1 x2 x3 x4 = some r) : Tri Try.prog 24 [(.agg [(.sl 1 (List.map e_u8 x1)), (.int .i64 x2), (.int .i64 x3)]), (.sl 1 (List.map e_Lu8E x4))] [] (.tup [(.agg [(.sl 1 (List.map e_u8 r.1)), (.int .i64 r.2.1), (.int .i64 r.2.2.1)]), (.int .i64 r.2.2.2)]) [] := by
    unfold disk_Renew at h
    obtain ⟨x5, e0, h⟩ := Option.bind_eq_some_iff.1 h
    cases x5 with
    | inl x6 =>
      simp only [Sum.elim_inl] at h
      by_cases c2 : ltI x3 (nI x6.length) = true
      · rw [if_pos c2] at h
        obtain ⟨x7, e3, h⟩ := Option.bind_eq_some_iff.1 h
        obtain rfl := Option.some.inj h
        exact Tri.of (x := X24) mixed facts24 [.n x4.length, .norm 2 ⟨[(2, []), (4, []), (6, []), (11, []), (12, []), (13, [])], [⟨.tmp 2, [], none⟩, ⟨.tmp 4, [], none⟩, ⟨.tmp 6, [], some 1⟩], false, [], []⟩, .n 0, .rows (List.map e_u8 []), .out (.st .normal (E24_0_0 x1 x2 x3 x6)), .d true, .n x1.length, .call ⟨true, []⟩ (.agg [(.sl 1 (List.map e_u8 x7.1)), (.int .i64 x7.2.1), (.int .i64 x7.2.2)]) []] [⟨(ok_disk_Disk_own_1 k x1 x2 x3 (nI x1.length) _ e3)⟩, ⟨(len_map e_u8 x1)⟩, ⟨c2⟩, ⟨(LT.block (ok_disk_Renew_l0 x1 x2 x3 x4 _ k 0 [] e0))⟩, ⟨(take_all e_u8 (l := []) (n := 0) rfl)⟩, ⟨(rfl : 0 = 0)⟩, ⟨(zle 0)⟩, ⟨(len_map e_Lu8E x4)⟩] (by kernel_rfl)
      · rw [if_neg c2] at h
        replace c2 := eqf c2
        obtain rfl := Option.some.inj h
        exact Tri.of (x := X24) mixed facts24 [.n x4.length, .norm 2 ⟨[(2, []), (4, []), (6, []), (11, []), (12, []), (13, [])], [⟨.tmp 2, [], none⟩, ⟨.tmp 4, [], none⟩, ⟨.tmp 6, [], some 1⟩], false, [], []⟩, .n 0, .rows (List.map e_u8 []), .out (.st .normal (E24_0_0 x1 x2 x3 x6)), .d false, .rows (List.map e_u8 x6)] [⟨(part_all e_u8 (l := x6) (n := x6.length) rfl)⟩, ⟨(le_map e_u8 (Nat.le_refl x6.length) : 0 + x6.length ≤ (List.map e_u8 x6).length)⟩, ⟨c2⟩, ⟨(LT.block (ok_disk_Renew_l0 x1 x2 x3 x4 _ k 0 [] e0))⟩, ⟨(take_all e_u8 (l := []) (n := 0) rfl)⟩, ⟨(rfl : 0 = 0)⟩, ⟨(zle 0)⟩, ⟨(len_map e_Lu8E x4)⟩] (by kernel_rfl)
    | inr x6 =>
      simp only [Sum.elim_inr] at h
      obtain rfl := Option.some.inj h
      exact Tri.of (x := X24) mixed facts24 [.n x4.length, .norm 2 ⟨[(2, []), (4, []), (6, []), (11, []), (12, []), (13, [])], [⟨.tmp 2, [], none⟩, ⟨.tmp 4, [], none⟩, ⟨.tmp 6, [], some 1⟩], false, [], []⟩, .n 0, .rows (List.map e_u8 []), .out (.fin (.tup [(.agg [(.sl 1 (List.map e_u8 x6.1)), (.int .i64 x6.2.1), (.int .i64 x6.2.2.1)]), (.int .i64 x6.2.2.2)]) [])] [⟨(LT.blockFin (id := 0) (ok_disk_Renew_l0 x1 x2 x3 x4 _ k 0 [] e0))⟩, ⟨(take_all e_u8 (l := []) (n := 0) rfl)⟩, ⟨(rfl : 0 = 0)⟩, ⟨(zle 0)⟩, ⟨(len_map e_Lu8E x4)⟩] (by kernel_rfl)
end Go.Ws
