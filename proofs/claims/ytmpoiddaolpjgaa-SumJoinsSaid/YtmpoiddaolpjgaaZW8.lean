/-
  law03_SumJoins: what the machine makes of it. (Printed by my own program.)
  Conditions: none.
-/
import Derived.Test.YtmpoiddaolpjgaaZPre
import Derived.Test.YtmpoiddaolpjgaaZPure
import Derived.Test.YtmpoiddaolpjgaaZW10
import Derived.Test.YtmpoiddaolpjgaaZW11
import Derived.Test.YtmpoiddaolpjgaaZW17
import Derived.Test.YtmpoiddaolpjgaaZW19
set_option linter.unusedVariables false
set_option linter.unusedSimpArgs false
namespace Go.Ws
open Go.Proofs
set_option linter.unusedSimpArgs false
set_option linter.unusedVariables false
set_option maxRecDepth 1000000
set_option maxHeartbeats 4000000
noncomputable def X8 : Ctx := ⟨Try.f8, [], true⟩
noncomputable def L8_0 : Code := at_ Try.f8 [1, 1, 1, 1, 1, 0, 1, 4, 5]
def S8_0 (x1 : List (List Int)) (x2 : List Int) (v8001_1 : Int) (v8001_2 : Int) (v8001_3 : List Int) : St := ⟨mkT 85 [(0, (.sl 1 (List.map e_Lu8E x1))), (1, (.sl 1 (List.map e_u8 x2))), (5, (.ref 1 0 0 0 v8001_3.length .virt)), (6, (.int .i64 v8001_2)), (7, (.int .i64 v8001_1))], [(.arr 1 (List.map e_u8 v8001_3) 0 0 false)]⟩
def E8_0_0 (x2 : List Int) (v8002_1 : Int) (v8002_2 : List Int) : St := ⟨mkT 85 [(1, (.sl 1 (List.map e_u8 x2))), (5, (.ref 1 0 0 0 v8002_2.length .virt)), (6, (.int .i64 v8002_1))], [(.arr 1 (List.map e_u8 v8002_2) 0 0 false)]⟩
def O8_0 (x1 : List (List Int)) (x2 : List Int) (y : (Sum (Int × (List Int)) (Bool))) : GX := match y with
  | .inl y => .st (.exit 0) (E8_0_0 x2 y.1 y.2)
  | .inr y => .fin (.bool y) []
theorem ok_law03_SumJoins_l0 (x1 : List (List Int)) (x2 : List Int) (y : (Sum (Int × (List Int)) (Bool))) : ∀ (k : Nat) (v8001_1 : Int) (v8001_2 : Int) (v8001_3 : List Int), law03_SumJoins_l0 k x1 x2 v8001_1 v8001_2 v8001_3 = some y → LT Try.prog X8 L8_0 (S8_0 x1 x2 v8001_1 v8001_2 v8001_3) (O8_0 x1 x2 y)
  | 0, v8001_1, v8001_2, v8001_3, h => by cases h
  | k + 1, v8001_1, v8001_2, v8001_3, h => by
    rw [law03_SumJoins_l0] at h
    by_cases cL0 : ltI v8001_1 (nI x1.length) = true
    · rw [if_pos cL0] at h
      by_cases cL1 : ltI v8001_1 20 = true
      · rw [if_pos cL1] at h
        by_cases cL2 : inI v8001_1 x1.length = true
        · rw [if_pos cL2] at h
          obtain ⟨v8000_1, eL3, h⟩ := Option.bind_eq_some_iff.1 h
          by_cases cL4 : ltI 300 (nI v8000_1.length) = true
          · rw [if_pos cL4] at h
            exact LT.next mixed (hs := ⟨[(0, []), (1, []), (5, []), (6, []), (7, [])], [⟨.tmp 5, [], some 1⟩], false, [], []⟩) (es := none) [.n x1.length, .d true, .d true, .d true, .d true, .n x1.length, .row [(.sl 1 (List.map e_u8 v8000_1))], .n v8000_1.length, .d true, .n v8001_3.length, .rows (List.map e_u8 v8001_3)] [⟨(take_all e_u8 (l := v8001_3) (n := v8001_3.length) rfl)⟩, ⟨(rfl : v8001_3.length = v8001_3.length)⟩, ⟨(zle v8001_3.length)⟩, ⟨cL4⟩, ⟨(len_map e_u8 v8000_1)⟩, ⟨(cells_map (e := e_Lu8E) eL3 1 0 1 (by decide))⟩, ⟨cL2⟩, ⟨(len_map e_Lu8E x1)⟩, ⟨cL1⟩, ⟨cL0⟩, ⟨cL0⟩, ⟨cL0⟩, ⟨(len_map e_Lu8E x1)⟩] (by kernel_rfl) (ok_law03_SumJoins_l0 x1 x2 y k (iadd .i64 v8001_1 1) v8001_2 v8001_3 h)
          · rw [if_neg cL4] at h
            replace cL4 := eqf cL4
            obtain ⟨v8000_2, eL5, h⟩ := Option.bind_eq_some_iff.1 h
            by_cases cL6 : eqI v8000_2.2 0 = true
            · rw [if_pos cL6] at h
              by_cases cL7 : roomI (((v8001_3 ++ v8000_2.1).length) * 1) = true
              · rw [if_pos cL7] at h
                exact LT.next mixed (hs := ⟨[(0, []), (1, []), (5, []), (6, []), (7, [])], [⟨.tmp 5, [], some 1⟩], false, [], []⟩) (es := none) [.n x1.length, .d true, .d true, .d true, .d true, .n x1.length, .row [(.sl 1 (List.map e_u8 v8000_1))], .n v8000_1.length, .d false, .n x1.length, .row [(.sl 1 (List.map e_u8 v8000_1))], .call ⟨true, []⟩ (.tup [(.sl 1 (List.map e_u8 v8000_2.1)), (.int .i64 v8000_2.2)]) [], .d false, .n ((v8001_3 ++ v8000_2.1).length), .n v8001_3.length, .d true, .rows (List.map e_u8 (v8001_3 ++ v8000_2.1)), .n ((v8001_3 ++ v8000_2.1).length), .rows (List.map e_u8 (v8001_3 ++ v8000_2.1))] [⟨(take_all e_u8 (l := (v8001_3 ++ v8000_2.1)) (n := ((v8001_3 ++ v8000_2.1).length)) rfl)⟩, ⟨(rfl : (v8001_3 ++ v8000_2.1).length = (v8001_3 ++ v8000_2.1).length)⟩, ⟨(zle ((v8001_3 ++ v8000_2.1).length))⟩, ⟨(app_map e_u8 v8001_3 v8000_2.1)⟩, ⟨(eqN_self v8001_3.length)⟩, ⟨(len_map e_u8 v8001_3)⟩, ⟨cL7⟩, ⟨(by simp only [List.length_append, List.length_cons, List.length_nil, List.length_take, List.length_drop, List.length_set, List.length_replicate, List.length_map, List.map_nil, List.map_cons] <;> omega : v8001_3.length + (List.map e_u8 v8000_2.1).length = (v8001_3 ++ v8000_2.1).length)⟩, ⟨(nF cL6)⟩, ⟨(ok_sum_Frame k v8000_1 _ eL5)⟩, ⟨(cells_map (e := e_Lu8E) eL3 1 0 1 (by decide))⟩, ⟨cL2⟩, ⟨(len_map e_Lu8E x1)⟩, ⟨cL4⟩, ⟨(len_map e_u8 v8000_1)⟩, ⟨(cells_map (e := e_Lu8E) eL3 1 0 1 (by decide))⟩, ⟨cL2⟩, ⟨(len_map e_Lu8E x1)⟩, ⟨cL1⟩, ⟨cL0⟩, ⟨cL0⟩, ⟨cL0⟩, ⟨(len_map e_Lu8E x1)⟩] (by kernel_rfl) (ok_law03_SumJoins_l0 x1 x2 y k (iadd .i64 v8001_1 1) (iadd .i64 v8001_2 1) (v8001_3 ++ v8000_2.1) h)
              · rw [if_neg cL7] at h
                replace cL7 := eqf cL7
                cases h
            · rw [if_neg cL6] at h
              replace cL6 := eqf cL6
              obtain rfl := Option.some.inj h
              show LT _ _ _ _ (.fin (.bool false) [])
              exact LT.done mixed (hs := ⟨[], [], false, [], []⟩) (es := none) [.n x1.length, .d true, .d true, .d true, .d true, .n x1.length, .row [(.sl 1 (List.map e_u8 v8000_1))], .n v8000_1.length, .d false, .n x1.length, .row [(.sl 1 (List.map e_u8 v8000_1))], .call ⟨true, []⟩ (.tup [(.sl 1 (List.map e_u8 v8000_2.1)), (.int .i64 v8000_2.2)]) [], .d true] [⟨(nT cL6)⟩, ⟨(ok_sum_Frame k v8000_1 _ eL5)⟩, ⟨(cells_map (e := e_Lu8E) eL3 1 0 1 (by decide))⟩, ⟨cL2⟩, ⟨(len_map e_Lu8E x1)⟩, ⟨cL4⟩, ⟨(len_map e_u8 v8000_1)⟩, ⟨(cells_map (e := e_Lu8E) eL3 1 0 1 (by decide))⟩, ⟨cL2⟩, ⟨(len_map e_Lu8E x1)⟩, ⟨cL1⟩, ⟨cL0⟩, ⟨cL0⟩, ⟨cL0⟩, ⟨(len_map e_Lu8E x1)⟩] (by kernel_rfl) (fun s h => by cases h)
        · rw [if_neg cL2] at h
          replace cL2 := eqf cL2
          cases h
      · rw [if_neg cL1] at h
        replace cL1 := eqf cL1
        obtain rfl := Option.some.inj h
        show LT _ _ _ _ (.st (.exit 0) (E8_0_0 x2 v8001_2 v8001_3))
        exact LT.done mixed (hs := ⟨[], [], false, [], []⟩) (es := (some ⟨[(1, []), (5, []), (6, [])], [⟨.tmp 5, [], none⟩], false, [], []⟩)) [.n x1.length, .d true, .d true, .d true, .d false] [⟨cL1⟩, ⟨cL0⟩, ⟨cL0⟩, ⟨cL0⟩, ⟨(len_map e_Lu8E x1)⟩] (by kernel_rfl) (fun s h => by cases h)
    · rw [if_neg cL0] at h
      replace cL0 := eqf cL0
      obtain rfl := Option.some.inj h
      show LT _ _ _ _ (.st (.exit 0) (E8_0_0 x2 v8001_2 v8001_3))
      exact LT.done mixed (hs := ⟨[], [], false, [], []⟩) (es := (some ⟨[(1, []), (5, []), (6, [])], [⟨.tmp 5, [], none⟩], false, [], []⟩)) [.n x1.length, .d false, .d false, .d false, .d false] [⟨(rfl : false = false)⟩, ⟨cL0⟩, ⟨cL0⟩, ⟨cL0⟩, ⟨(len_map e_Lu8E x1)⟩] (by kernel_rfl) (fun s h => by cases h)
theorem ok_law03_SumJoins (k : Nat) (x1 : List (List Int)) (x2 : List Int) (r : Bool) (h : law03_SumJoins k x1 x2 = some r) : Tri Try.prog 8 [(.sl 1 (List.map e_Lu8E x1)), (.sl 1 (List.map e_u8 x2))] [] (.bool r) [] := by
    unfold law03_SumJoins at h
    obtain ⟨x3, e0, h⟩ := Option.bind_eq_some_iff.1 h
    by_cases c1 : x3 = true
    · rw [if_pos c1] at h
      by_cases c2 : ltI 3000 (nI x2.length) = true
      · rw [if_pos c2] at h
        obtain rfl := Option.some.inj h
        exact Tri.of (x := X8) mixed facts8 [.call ⟨true, []⟩ (.bool x3) [], .d false, .n x2.length, .d true] [⟨c2⟩, ⟨(len_map e_u8 x2)⟩, ⟨(nF c1)⟩, ⟨(ok_law03_alive k _ e0)⟩] (by kernel_rfl)
      · rw [if_neg c2] at h
        replace c2 := eqf c2
        obtain ⟨x4, e3, h⟩ := Option.bind_eq_some_iff.1 h
        cases x4 with
        | inl x5 =>
          simp only [Sum.elim_inl] at h
          by_cases c5 : roomI (x5.2.length * 1) = true
          · rw [if_pos c5] at h
            by_cases c6 : roomI (((x5.2 ++ x2).length) * 1) = true
            · rw [if_pos c6] at h
              obtain ⟨x6, e7, h⟩ := Option.bind_eq_some_iff.1 h
              obtain ⟨x7, e8, h⟩ := Option.bind_eq_some_iff.1 h
              by_cases c9 : eqI (nI x6.1.length) (iadd .i64 x5.1 (nI x7.1.length)) = true
              · rw [if_pos c9] at h
                by_cases c10 : eqI x6.2 (iadd .i64 (nI x5.2.length) x7.2) = true
                · rw [if_pos c10] at h
                  by_cases c11 : leI x5.1 x6.1.length = true
                  · rw [if_pos c11] at h
                    obtain ⟨x8, e12, h⟩ := Option.bind_eq_some_iff.1 h
                    obtain rfl := Option.some.inj h
                    exact Tri.of (x := X8) mixed facts8 [.call ⟨true, []⟩ (.bool x3) [], .d false, .n x2.length, .d false, .norm 2 ⟨[(0, []), (1, []), (5, []), (6, []), (7, [])], [⟨.tmp 5, [], some 1⟩], false, [], []⟩, .n 0, .rows (List.map e_u8 []), .out (.st .normal (E8_0_0 x2 x5.1 x5.2)), .rows (List.map e_u8 x5.2), .n x5.2.length, .n ((x5.2 ++ x2).length), .n x5.2.length, .d true, .rows (List.map e_u8 (x5.2 ++ x2)), .call ⟨true, []⟩ (.tup [(.sl 1 (List.map e_Lu8E x6.1)), (.int .i64 x6.2)]) [], .rows (List.map e_u8 (x5.2 ++ x2)), .call ⟨true, []⟩ (.tup [(.sl 1 (List.map e_Lu8E x7.1)), (.int .i64 x7.2)]) [], .n x6.1.length, .n x7.1.length, .d true, .d true, .d true, .d true, .d true, .d true, .d true, .d true, .d true, .d true, .n x6.1.length, .rows (List.map e_Lu8E (List.drop (tN x5.1) x6.1)), .d true, .d true, .call ⟨true, []⟩ (.bool x8) [], .d true] [⟨c10⟩, ⟨(ok_law03_same k (List.drop (tN x5.1) x6.1) x7.1 _ e12)⟩, ⟨c10⟩, ⟨c10⟩, ⟨(cut_drop e_Lu8E (l := x6.1) (n := x6.1.length) rfl (tN x5.1))⟩, ⟨c11⟩, ⟨(len_map e_Lu8E x6.1)⟩, ⟨c10⟩, ⟨c10⟩, ⟨c10⟩, ⟨c9⟩, ⟨c9⟩, ⟨c9⟩, ⟨c9⟩, ⟨c9⟩, ⟨c9⟩, ⟨c9⟩, ⟨(len_map e_Lu8E x7.1)⟩, ⟨(len_map e_Lu8E x6.1)⟩, ⟨(ok_sum_All k x2 _ e8)⟩, ⟨(ok_sum_All k (x5.2 ++ x2) _ e7)⟩, ⟨(part_all e_u8 (l := (x5.2 ++ x2)) (n := ((x5.2 ++ x2).length)) rfl)⟩, ⟨(le_map e_u8 (Nat.le_refl ((x5.2 ++ x2).length)) : 0 + (x5.2 ++ x2).length ≤ (List.map e_u8 (x5.2 ++ x2)).length)⟩, ⟨(app_map e_u8 x5.2 x2)⟩, ⟨(eqN_self x5.2.length)⟩, ⟨(len_map e_u8 x5.2)⟩, ⟨c6⟩, ⟨(by simp only [List.length_append, List.length_cons, List.length_nil, List.length_take, List.length_drop, List.length_set, List.length_replicate, List.length_map, List.map_nil, List.map_cons] <;> omega : x5.2.length + (List.map e_u8 x2).length = (x5.2 ++ x2).length)⟩, ⟨c5⟩, ⟨(len_map e_u8 x5.2)⟩, ⟨(part_all e_u8 (l := x5.2) (n := x5.2.length) rfl)⟩, ⟨(le_map e_u8 (Nat.le_refl x5.2.length) : 0 + x5.2.length ≤ (List.map e_u8 x5.2).length)⟩, ⟨(LT.block (ok_law03_SumJoins_l0 x1 x2 _ k 0 0 [] e3))⟩, ⟨(take_all e_u8 (l := []) (n := 0) rfl)⟩, ⟨(rfl : 0 = 0)⟩, ⟨(zle 0)⟩, ⟨c2⟩, ⟨(len_map e_u8 x2)⟩, ⟨(nF c1)⟩, ⟨(ok_law03_alive k _ e0)⟩] (by kernel_rfl)
                  · rw [if_neg c11] at h
                    replace c11 := eqf c11
                    cases h
                · rw [if_neg c10] at h
                  replace c10 := eqf c10
                  obtain rfl := Option.some.inj h
                  exact Tri.of (x := X8) mixed facts8 [.call ⟨true, []⟩ (.bool x3) [], .d false, .n x2.length, .d false, .norm 2 ⟨[(0, []), (1, []), (5, []), (6, []), (7, [])], [⟨.tmp 5, [], some 1⟩], false, [], []⟩, .n 0, .rows (List.map e_u8 []), .out (.st .normal (E8_0_0 x2 x5.1 x5.2)), .rows (List.map e_u8 x5.2), .n x5.2.length, .n ((x5.2 ++ x2).length), .n x5.2.length, .d true, .rows (List.map e_u8 (x5.2 ++ x2)), .call ⟨true, []⟩ (.tup [(.sl 1 (List.map e_Lu8E x6.1)), (.int .i64 x6.2)]) [], .rows (List.map e_u8 (x5.2 ++ x2)), .call ⟨true, []⟩ (.tup [(.sl 1 (List.map e_Lu8E x7.1)), (.int .i64 x7.2)]) [], .n x6.1.length, .n x7.1.length, .d true, .d true, .d true, .d true, .d true, .d true, .d true, .d false, .d false, .d false, .d false, .d false, .d false] [⟨c10⟩, ⟨c10⟩, ⟨c10⟩, ⟨c10⟩, ⟨c10⟩, ⟨c10⟩, ⟨c9⟩, ⟨c9⟩, ⟨c9⟩, ⟨c9⟩, ⟨c9⟩, ⟨c9⟩, ⟨c9⟩, ⟨(len_map e_Lu8E x7.1)⟩, ⟨(len_map e_Lu8E x6.1)⟩, ⟨(ok_sum_All k x2 _ e8)⟩, ⟨(ok_sum_All k (x5.2 ++ x2) _ e7)⟩, ⟨(part_all e_u8 (l := (x5.2 ++ x2)) (n := ((x5.2 ++ x2).length)) rfl)⟩, ⟨(le_map e_u8 (Nat.le_refl ((x5.2 ++ x2).length)) : 0 + (x5.2 ++ x2).length ≤ (List.map e_u8 (x5.2 ++ x2)).length)⟩, ⟨(app_map e_u8 x5.2 x2)⟩, ⟨(eqN_self x5.2.length)⟩, ⟨(len_map e_u8 x5.2)⟩, ⟨c6⟩, ⟨(by simp only [List.length_append, List.length_cons, List.length_nil, List.length_take, List.length_drop, List.length_set, List.length_replicate, List.length_map, List.map_nil, List.map_cons] <;> omega : x5.2.length + (List.map e_u8 x2).length = (x5.2 ++ x2).length)⟩, ⟨c5⟩, ⟨(len_map e_u8 x5.2)⟩, ⟨(part_all e_u8 (l := x5.2) (n := x5.2.length) rfl)⟩, ⟨(le_map e_u8 (Nat.le_refl x5.2.length) : 0 + x5.2.length ≤ (List.map e_u8 x5.2).length)⟩, ⟨(LT.block (ok_law03_SumJoins_l0 x1 x2 _ k 0 0 [] e3))⟩, ⟨(take_all e_u8 (l := []) (n := 0) rfl)⟩, ⟨(rfl : 0 = 0)⟩, ⟨(zle 0)⟩, ⟨c2⟩, ⟨(len_map e_u8 x2)⟩, ⟨(nF c1)⟩, ⟨(ok_law03_alive k _ e0)⟩] (by kernel_rfl)
              · rw [if_neg c9] at h
                replace c9 := eqf c9
                obtain rfl := Option.some.inj h
                exact Tri.of (x := X8) mixed facts8 [.call ⟨true, []⟩ (.bool x3) [], .d false, .n x2.length, .d false, .norm 2 ⟨[(0, []), (1, []), (5, []), (6, []), (7, [])], [⟨.tmp 5, [], some 1⟩], false, [], []⟩, .n 0, .rows (List.map e_u8 []), .out (.st .normal (E8_0_0 x2 x5.1 x5.2)), .rows (List.map e_u8 x5.2), .n x5.2.length, .n ((x5.2 ++ x2).length), .n x5.2.length, .d true, .rows (List.map e_u8 (x5.2 ++ x2)), .call ⟨true, []⟩ (.tup [(.sl 1 (List.map e_Lu8E x6.1)), (.int .i64 x6.2)]) [], .rows (List.map e_u8 (x5.2 ++ x2)), .call ⟨true, []⟩ (.tup [(.sl 1 (List.map e_Lu8E x7.1)), (.int .i64 x7.2)]) [], .n x6.1.length, .n x7.1.length, .d false, .d false, .d false, .d false, .d false, .d false, .d false, .d false, .d false, .d false, .d false, .d false, .d false] [⟨(rfl : false = false)⟩, ⟨(rfl : false = false)⟩, ⟨(rfl : false = false)⟩, ⟨(rfl : false = false)⟩, ⟨(rfl : false = false)⟩, ⟨(rfl : false = false)⟩, ⟨c9⟩, ⟨c9⟩, ⟨c9⟩, ⟨c9⟩, ⟨c9⟩, ⟨c9⟩, ⟨c9⟩, ⟨(len_map e_Lu8E x7.1)⟩, ⟨(len_map e_Lu8E x6.1)⟩, ⟨(ok_sum_All k x2 _ e8)⟩, ⟨(ok_sum_All k (x5.2 ++ x2) _ e7)⟩, ⟨(part_all e_u8 (l := (x5.2 ++ x2)) (n := ((x5.2 ++ x2).length)) rfl)⟩, ⟨(le_map e_u8 (Nat.le_refl ((x5.2 ++ x2).length)) : 0 + (x5.2 ++ x2).length ≤ (List.map e_u8 (x5.2 ++ x2)).length)⟩, ⟨(app_map e_u8 x5.2 x2)⟩, ⟨(eqN_self x5.2.length)⟩, ⟨(len_map e_u8 x5.2)⟩, ⟨c6⟩, ⟨(by simp only [List.length_append, List.length_cons, List.length_nil, List.length_take, List.length_drop, List.length_set, List.length_replicate, List.length_map, List.map_nil, List.map_cons] <;> omega : x5.2.length + (List.map e_u8 x2).length = (x5.2 ++ x2).length)⟩, ⟨c5⟩, ⟨(len_map e_u8 x5.2)⟩, ⟨(part_all e_u8 (l := x5.2) (n := x5.2.length) rfl)⟩, ⟨(le_map e_u8 (Nat.le_refl x5.2.length) : 0 + x5.2.length ≤ (List.map e_u8 x5.2).length)⟩, ⟨(LT.block (ok_law03_SumJoins_l0 x1 x2 _ k 0 0 [] e3))⟩, ⟨(take_all e_u8 (l := []) (n := 0) rfl)⟩, ⟨(rfl : 0 = 0)⟩, ⟨(zle 0)⟩, ⟨c2⟩, ⟨(len_map e_u8 x2)⟩, ⟨(nF c1)⟩, ⟨(ok_law03_alive k _ e0)⟩] (by kernel_rfl)
            · rw [if_neg c6] at h
              replace c6 := eqf c6
              cases h
          · rw [if_neg c5] at h
            replace c5 := eqf c5
            cases h
        | inr x5 =>
          simp only [Sum.elim_inr] at h
          obtain rfl := Option.some.inj h
          exact Tri.of (x := X8) mixed facts8 [.call ⟨true, []⟩ (.bool x3) [], .d false, .n x2.length, .d false, .norm 2 ⟨[(0, []), (1, []), (5, []), (6, []), (7, [])], [⟨.tmp 5, [], some 1⟩], false, [], []⟩, .n 0, .rows (List.map e_u8 []), .out (.fin (.bool x5) [])] [⟨(LT.blockFin (id := 0) (ok_law03_SumJoins_l0 x1 x2 _ k 0 0 [] e3))⟩, ⟨(take_all e_u8 (l := []) (n := 0) rfl)⟩, ⟨(rfl : 0 = 0)⟩, ⟨(zle 0)⟩, ⟨c2⟩, ⟨(len_map e_u8 x2)⟩, ⟨(nF c1)⟩, ⟨(ok_law03_alive k _ e0)⟩] (by kernel_rfl)
    · rw [if_neg c1] at h
      replace c1 := eqf c1
      obtain rfl := Option.some.inj h
      exact Tri.of (x := X8) mixed facts8 [.call ⟨true, []⟩ (.bool x3) [], .d true] [⟨(nT c1)⟩, ⟨(ok_law03_alive k _ e0)⟩] (by kernel_rfl)
end Go.Ws
