/-
  law09_PartRow: what the machine makes of it. (Printed by my own program.)
  Conditions: none.
-/
import Derived.Test.YtnokdedppgmliaaZPre
import Derived.Test.YtnokdedppgmliaaZPure
import Derived.Test.YtnokdedppgmliaaZW10
import Derived.Test.YtnokdedppgmliaaZW11
import Derived.Test.YtnokdedppgmliaaZW12
import Derived.Test.YtnokdedppgmliaaZW9
set_option linter.unusedVariables false
set_option linter.unusedSimpArgs false
namespace Go.Ws
open Go.Proofs
set_option linter.unusedSimpArgs false
set_option linter.unusedVariables false
set_option maxRecDepth 1000000
set_option maxHeartbeats 4000000
noncomputable def X4 : Ctx := ⟨Try.f4, [], true⟩
noncomputable def L4_0 : Code := at_ Try.f4 [1, 1, 1, 1, 0, 1, 4, 5]
def S4_0 (x1 : List (Int × Int × Int × Bool × Int)) (v4001_1 : Int) (v4001_2 : Int) (v4001_3 : List (Int × Int)) (v4001_4 : Bool) (v4001_5 : Int) (v4001_6 : Int) (v4001_7 : List (Int × Int)) (v4001_8 : Bool) (v4001_9 : Int) : St := ⟨mkT 49 [(0, (.sl 5 (List.map e_u8_u8_i64_b_i64 x1))), (3, (.hp 0 0)), (4, (.hp 1 0)), (5, (.int .i64 v4001_1))], [(.row [(.int .i64 v4001_2), (.sl 2 (List.map e_u8_i64 v4001_3)), (.bool v4001_4), (.int .i64 v4001_5)]), (.row [(.int .i64 v4001_6), (.sl 2 (List.map e_u8_i64 v4001_7)), (.bool v4001_8), (.int .i64 v4001_9)])]⟩
def E4_0_0 : St := ⟨mkT 49 [], []⟩
def O4_0 (x1 : List (Int × Int × Int × Bool × Int)) (y : (Sum (Unit) (Bool))) : GX := match y with
  | .inl y => .st (.exit 0) (E4_0_0)
  | .inr y => .fin (.bool y) []
theorem ok_law09_PartRow_l0 (x1 : List (Int × Int × Int × Bool × Int)) (y : (Sum (Unit) (Bool))) : ∀ (k : Nat) (v4001_1 : Int) (v4001_2 : Int) (v4001_3 : List (Int × Int)) (v4001_4 : Bool) (v4001_5 : Int) (v4001_6 : Int) (v4001_7 : List (Int × Int)) (v4001_8 : Bool) (v4001_9 : Int), law09_PartRow_l0 k x1 v4001_1 v4001_2 v4001_3 v4001_4 v4001_5 v4001_6 v4001_7 v4001_8 v4001_9 = some y → LT Try.prog X4 L4_0 (S4_0 x1 v4001_1 v4001_2 v4001_3 v4001_4 v4001_5 v4001_6 v4001_7 v4001_8 v4001_9) (O4_0 x1 y)
  | 0, v4001_1, v4001_2, v4001_3, v4001_4, v4001_5, v4001_6, v4001_7, v4001_8, v4001_9, h => by cases h
  | k + 1, v4001_1, v4001_2, v4001_3, v4001_4, v4001_5, v4001_6, v4001_7, v4001_8, v4001_9, h => by
    rw [law09_PartRow_l0] at h
    by_cases cL0 : ltI v4001_1 (nI x1.length) = true
    · rw [if_pos cL0] at h
      by_cases cL1 : ltI v4001_1 80 = true
      · rw [if_pos cL1] at h
        by_cases cL2 : inI v4001_1 x1.length = true
        · rw [if_pos cL2] at h
          obtain ⟨v4000_1, eL3, h⟩ := Option.bind_eq_some_iff.1 h
          obtain ⟨v4000_2, eL4, h⟩ := Option.bind_eq_some_iff.1 h
          by_cases cL5 : v4000_2.2.2.2.2.2.2.2.2.2 = true
          · rw [if_pos cL5] at h
            obtain ⟨v4000_3, eL6, h⟩ := Option.bind_eq_some_iff.1 h
            by_cases cL7 : v4000_3 = true
            · rw [if_pos cL7] at h
              obtain ⟨v4000_4, eL8, h⟩ := Option.bind_eq_some_iff.1 h
              by_cases cL9 : v4000_4 = true
              · rw [if_pos cL9] at h
                exact LT.next mixed (hs := ⟨[(0, []), (3, []), (4, []), (5, [])], [⟨.tmp 3, [], none⟩, ⟨.tmp 4, [], none⟩], false, [], []⟩) (es := none) [.n x1.length, .d true, .d true, .d true, .d true, .n x1.length, .row [(.int .u8 v4000_1.1), (.int .u8 v4000_1.2.1), (.int .i64 v4000_1.2.2.1), (.bool v4000_1.2.2.2.1), (.int .i64 v4000_1.2.2.2.2)], .call ⟨true, []⟩ (.tup [(.agg [(.int .i64 v4000_2.1), (.sl 2 (List.map e_u8_i64 v4000_2.2.1)), (.bool v4000_2.2.2.1), (.int .i64 v4000_2.2.2.2.1)]), (.agg [(.int .i64 v4000_2.2.2.2.2.1), (.sl 2 (List.map e_u8_i64 v4000_2.2.2.2.2.2.1)), (.bool v4000_2.2.2.2.2.2.2.1), (.int .i64 v4000_2.2.2.2.2.2.2.2.1)]), (.sl 2 (List.map e_u8_i64 v4000_2.2.2.2.2.2.2.2.2.1)), (.bool v4000_2.2.2.2.2.2.2.2.2.2)]) [], .d false, .d false, .d false, .call ⟨true, []⟩ (.bool v4000_3) [], .d false, .d false, .d false, .d false, .call ⟨true, []⟩ (.bool v4000_4) [], .d false, .d false, .d false] [⟨(nF cL9)⟩, ⟨(nF cL7)⟩, ⟨(nF cL7)⟩, ⟨(ok_part_Right k v4000_2.1 v4000_2.2.1 v4000_2.2.2.1 v4000_2.2.2.2.1 _ eL8)⟩, ⟨(nF cL7)⟩, ⟨(nF cL7)⟩, ⟨(nF cL5)⟩, ⟨(nF cL5)⟩, ⟨(ok_ref09_Same k v4000_2.1 v4000_2.2.1 v4000_2.2.2.1 v4000_2.2.2.2.1 v4000_2.2.2.2.2.1 v4000_2.2.2.2.2.2.1 v4000_2.2.2.2.2.2.2.1 v4000_2.2.2.2.2.2.2.2.1 _ eL6)⟩, ⟨(nF cL5)⟩, ⟨(nF cL5)⟩, ⟨(nF cL5)⟩, ⟨(ok_law09_does k v4001_2 v4001_3 v4001_4 v4001_5 v4001_6 v4001_7 v4001_8 v4001_9 v4000_1.1 v4000_1.2.1 v4000_1.2.2.1 v4000_1.2.2.2.1 v4000_1.2.2.2.2 _ eL4)⟩, ⟨(cells_map (e := e_u8_u8_i64_b_i64) eL3 5 0 5 (by decide))⟩, ⟨cL2⟩, ⟨(len_map e_u8_u8_i64_b_i64 x1)⟩, ⟨cL1⟩, ⟨cL0⟩, ⟨cL0⟩, ⟨cL0⟩, ⟨(len_map e_u8_u8_i64_b_i64 x1)⟩] (by kernel_rfl) (ok_law09_PartRow_l0 x1 y k (iadd .i64 v4001_1 1) v4000_2.1 v4000_2.2.1 v4000_2.2.2.1 v4000_2.2.2.2.1 v4000_2.2.2.2.2.1 v4000_2.2.2.2.2.2.1 v4000_2.2.2.2.2.2.2.1 v4000_2.2.2.2.2.2.2.2.1 h)
              · rw [if_neg cL9] at h
                replace cL9 := eqf cL9
                obtain rfl := Option.some.inj h
                show LT _ _ _ _ (.fin (.bool false) [])
                exact LT.done mixed (hs := ⟨[], [], false, [], []⟩) (es := none) [.n x1.length, .d true, .d true, .d true, .d true, .n x1.length, .row [(.int .u8 v4000_1.1), (.int .u8 v4000_1.2.1), (.int .i64 v4000_1.2.2.1), (.bool v4000_1.2.2.2.1), (.int .i64 v4000_1.2.2.2.2)], .call ⟨true, []⟩ (.tup [(.agg [(.int .i64 v4000_2.1), (.sl 2 (List.map e_u8_i64 v4000_2.2.1)), (.bool v4000_2.2.2.1), (.int .i64 v4000_2.2.2.2.1)]), (.agg [(.int .i64 v4000_2.2.2.2.2.1), (.sl 2 (List.map e_u8_i64 v4000_2.2.2.2.2.2.1)), (.bool v4000_2.2.2.2.2.2.2.1), (.int .i64 v4000_2.2.2.2.2.2.2.2.1)]), (.sl 2 (List.map e_u8_i64 v4000_2.2.2.2.2.2.2.2.2.1)), (.bool v4000_2.2.2.2.2.2.2.2.2.2)]) [], .d false, .d false, .d false, .call ⟨true, []⟩ (.bool v4000_3) [], .d false, .d false, .d false, .d false, .call ⟨true, []⟩ (.bool v4000_4) [], .d false, .d false, .d true] [⟨(nT cL9)⟩, ⟨(nF cL7)⟩, ⟨(nF cL7)⟩, ⟨(ok_part_Right k v4000_2.1 v4000_2.2.1 v4000_2.2.2.1 v4000_2.2.2.2.1 _ eL8)⟩, ⟨(nF cL7)⟩, ⟨(nF cL7)⟩, ⟨(nF cL5)⟩, ⟨(nF cL5)⟩, ⟨(ok_ref09_Same k v4000_2.1 v4000_2.2.1 v4000_2.2.2.1 v4000_2.2.2.2.1 v4000_2.2.2.2.2.1 v4000_2.2.2.2.2.2.1 v4000_2.2.2.2.2.2.2.1 v4000_2.2.2.2.2.2.2.2.1 _ eL6)⟩, ⟨(nF cL5)⟩, ⟨(nF cL5)⟩, ⟨(nF cL5)⟩, ⟨(ok_law09_does k v4001_2 v4001_3 v4001_4 v4001_5 v4001_6 v4001_7 v4001_8 v4001_9 v4000_1.1 v4000_1.2.1 v4000_1.2.2.1 v4000_1.2.2.2.1 v4000_1.2.2.2.2 _ eL4)⟩, ⟨(cells_map (e := e_u8_u8_i64_b_i64) eL3 5 0 5 (by decide))⟩, ⟨cL2⟩, ⟨(len_map e_u8_u8_i64_b_i64 x1)⟩, ⟨cL1⟩, ⟨cL0⟩, ⟨cL0⟩, ⟨cL0⟩, ⟨(len_map e_u8_u8_i64_b_i64 x1)⟩] (by kernel_rfl) (fun s h => by cases h)
            · rw [if_neg cL7] at h
              replace cL7 := eqf cL7
              obtain rfl := Option.some.inj h
              show LT _ _ _ _ (.fin (.bool false) [])
              exact LT.done mixed (hs := ⟨[], [], false, [], []⟩) (es := none) [.n x1.length, .d true, .d true, .d true, .d true, .n x1.length, .row [(.int .u8 v4000_1.1), (.int .u8 v4000_1.2.1), (.int .i64 v4000_1.2.2.1), (.bool v4000_1.2.2.2.1), (.int .i64 v4000_1.2.2.2.2)], .call ⟨true, []⟩ (.tup [(.agg [(.int .i64 v4000_2.1), (.sl 2 (List.map e_u8_i64 v4000_2.2.1)), (.bool v4000_2.2.2.1), (.int .i64 v4000_2.2.2.2.1)]), (.agg [(.int .i64 v4000_2.2.2.2.2.1), (.sl 2 (List.map e_u8_i64 v4000_2.2.2.2.2.2.1)), (.bool v4000_2.2.2.2.2.2.2.1), (.int .i64 v4000_2.2.2.2.2.2.2.2.1)]), (.sl 2 (List.map e_u8_i64 v4000_2.2.2.2.2.2.2.2.2.1)), (.bool v4000_2.2.2.2.2.2.2.2.2.2)]) [], .d false, .d false, .d false, .call ⟨true, []⟩ (.bool v4000_3) [], .d false, .d false, .d true, .d true, .d true, .d true, .d true] [⟨(rfl : true = true)⟩, ⟨(nT cL7)⟩, ⟨(nT cL7)⟩, ⟨(nT cL7)⟩, ⟨(nT cL7)⟩, ⟨(nF cL5)⟩, ⟨(nF cL5)⟩, ⟨(ok_ref09_Same k v4000_2.1 v4000_2.2.1 v4000_2.2.2.1 v4000_2.2.2.2.1 v4000_2.2.2.2.2.1 v4000_2.2.2.2.2.2.1 v4000_2.2.2.2.2.2.2.1 v4000_2.2.2.2.2.2.2.2.1 _ eL6)⟩, ⟨(nF cL5)⟩, ⟨(nF cL5)⟩, ⟨(nF cL5)⟩, ⟨(ok_law09_does k v4001_2 v4001_3 v4001_4 v4001_5 v4001_6 v4001_7 v4001_8 v4001_9 v4000_1.1 v4000_1.2.1 v4000_1.2.2.1 v4000_1.2.2.2.1 v4000_1.2.2.2.2 _ eL4)⟩, ⟨(cells_map (e := e_u8_u8_i64_b_i64) eL3 5 0 5 (by decide))⟩, ⟨cL2⟩, ⟨(len_map e_u8_u8_i64_b_i64 x1)⟩, ⟨cL1⟩, ⟨cL0⟩, ⟨cL0⟩, ⟨cL0⟩, ⟨(len_map e_u8_u8_i64_b_i64 x1)⟩] (by kernel_rfl) (fun s h => by cases h)
          · rw [if_neg cL5] at h
            replace cL5 := eqf cL5
            obtain rfl := Option.some.inj h
            show LT _ _ _ _ (.fin (.bool false) [])
            exact LT.done mixed (hs := ⟨[], [], false, [], []⟩) (es := none) [.n x1.length, .d true, .d true, .d true, .d true, .n x1.length, .row [(.int .u8 v4000_1.1), (.int .u8 v4000_1.2.1), (.int .i64 v4000_1.2.2.1), (.bool v4000_1.2.2.2.1), (.int .i64 v4000_1.2.2.2.2)], .call ⟨true, []⟩ (.tup [(.agg [(.int .i64 v4000_2.1), (.sl 2 (List.map e_u8_i64 v4000_2.2.1)), (.bool v4000_2.2.2.1), (.int .i64 v4000_2.2.2.2.1)]), (.agg [(.int .i64 v4000_2.2.2.2.2.1), (.sl 2 (List.map e_u8_i64 v4000_2.2.2.2.2.2.1)), (.bool v4000_2.2.2.2.2.2.2.1), (.int .i64 v4000_2.2.2.2.2.2.2.2.1)]), (.sl 2 (List.map e_u8_i64 v4000_2.2.2.2.2.2.2.2.2.1)), (.bool v4000_2.2.2.2.2.2.2.2.2.2)]) [], .d true, .d true, .d true, .d true, .d true, .d true, .d true, .d true, .d true, .d true] [⟨(rfl : true = true)⟩, ⟨(rfl : true = true)⟩, ⟨(rfl : true = true)⟩, ⟨(rfl : true = true)⟩, ⟨(rfl : true = true)⟩, ⟨(nT cL5)⟩, ⟨(nT cL5)⟩, ⟨(nT cL5)⟩, ⟨(nT cL5)⟩, ⟨(nT cL5)⟩, ⟨(ok_law09_does k v4001_2 v4001_3 v4001_4 v4001_5 v4001_6 v4001_7 v4001_8 v4001_9 v4000_1.1 v4000_1.2.1 v4000_1.2.2.1 v4000_1.2.2.2.1 v4000_1.2.2.2.2 _ eL4)⟩, ⟨(cells_map (e := e_u8_u8_i64_b_i64) eL3 5 0 5 (by decide))⟩, ⟨cL2⟩, ⟨(len_map e_u8_u8_i64_b_i64 x1)⟩, ⟨cL1⟩, ⟨cL0⟩, ⟨cL0⟩, ⟨cL0⟩, ⟨(len_map e_u8_u8_i64_b_i64 x1)⟩] (by kernel_rfl) (fun s h => by cases h)
        · rw [if_neg cL2] at h
          replace cL2 := eqf cL2
          cases h
      · rw [if_neg cL1] at h
        replace cL1 := eqf cL1
        obtain rfl := Option.some.inj h
        show LT _ _ _ _ (.st (.exit 0) (E4_0_0))
        exact LT.done mixed (hs := ⟨[], [], false, [], []⟩) (es := (some ⟨[], [], false, [], []⟩)) [.n x1.length, .d true, .d true, .d true, .d false] [⟨cL1⟩, ⟨cL0⟩, ⟨cL0⟩, ⟨cL0⟩, ⟨(len_map e_u8_u8_i64_b_i64 x1)⟩] (by kernel_rfl) (fun s h => by cases h)
    · rw [if_neg cL0] at h
      replace cL0 := eqf cL0
      obtain rfl := Option.some.inj h
      show LT _ _ _ _ (.st (.exit 0) (E4_0_0))
      exact LT.done mixed (hs := ⟨[], [], false, [], []⟩) (es := (some ⟨[], [], false, [], []⟩)) [.n x1.length, .d false, .d false, .d false, .d false] [⟨(rfl : false = false)⟩, ⟨cL0⟩, ⟨cL0⟩, ⟨cL0⟩, ⟨(len_map e_u8_u8_i64_b_i64 x1)⟩] (by kernel_rfl) (fun s h => by cases h)
theorem ok_law09_PartRow (k : Nat) (x1 : List (Int × Int × Int × Bool × Int)) (r : Bool) (h : law09_PartRow k x1 = some r) : Tri Try.prog 4 [(.sl 5 (List.map e_u8_u8_i64_b_i64 x1))] [] (.bool r) [] := by
    unfold law09_PartRow at h
    obtain ⟨x2, e0, h⟩ := Option.bind_eq_some_iff.1 h
    by_cases c1 : x2 = true
    · rw [if_pos c1] at h
      obtain ⟨x3, e2, h⟩ := Option.bind_eq_some_iff.1 h
      cases x3 with
      | inl x4 =>
        simp only [Sum.elim_inl] at h
        obtain rfl := Option.some.inj h
        exact Tri.of (x := X4) mixed facts4 [.call ⟨true, []⟩ (.bool x2) [], .d false, .norm 2 ⟨[(0, []), (3, []), (4, []), (5, [])], [⟨.tmp 3, [(1, 2)], none⟩, ⟨.tmp 4, [(1, 2)], none⟩], false, [], []⟩, .out (.st .normal (E4_0_0))] [⟨(LT.block (ok_law09_PartRow_l0 x1 _ k 0 0 [] false 0 0 [] false 0 e2))⟩, ⟨(nF c1)⟩, ⟨(ok_law09_alive k _ e0)⟩] (by kernel_rfl)
      | inr x4 =>
        simp only [Sum.elim_inr] at h
        obtain rfl := Option.some.inj h
        exact Tri.of (x := X4) mixed facts4 [.call ⟨true, []⟩ (.bool x2) [], .d false, .norm 2 ⟨[(0, []), (3, []), (4, []), (5, [])], [⟨.tmp 3, [(1, 2)], none⟩, ⟨.tmp 4, [(1, 2)], none⟩], false, [], []⟩, .out (.fin (.bool x4) [])] [⟨(LT.blockFin (id := 0) (ok_law09_PartRow_l0 x1 _ k 0 0 [] false 0 0 [] false 0 e2))⟩, ⟨(nF c1)⟩, ⟨(ok_law09_alive k _ e0)⟩] (by kernel_rfl)
    · rw [if_neg c1] at h
      replace c1 := eqf c1
      obtain rfl := Option.some.inj h
      exact Tri.of (x := X4) mixed facts4 [.call ⟨true, []⟩ (.bool x2) [], .d true] [⟨(nT c1)⟩, ⟨(ok_law09_alive k _ e0)⟩] (by kernel_rfl)
end Go.Ws
