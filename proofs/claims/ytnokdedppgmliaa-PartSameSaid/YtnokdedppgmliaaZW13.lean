/-
  ref09_Right: what the machine makes of it. (Printed by my own program.)
  Conditions: none.
-/
import Derived.Test.YtnokdedppgmliaaZPre
import Derived.Test.YtnokdedppgmliaaZPure
set_option linter.unusedVariables false
set_option linter.unusedSimpArgs false
namespace Go.Ws
open Go.Proofs
set_option linter.unusedSimpArgs false
set_option linter.unusedVariables false
set_option maxRecDepth 1000000
set_option maxHeartbeats 4000000
noncomputable def X13 : Ctx := ⟨Try.f13, [], true⟩
noncomputable def L13_0 : Code := at_ Try.f13 [1, 0, 1, 4, 5]
def S13_0 (x1 : Int) (x2 : List (Int × Int)) (x3 : Bool) (x4 : Int) (v13001_1 : Int) : St := ⟨mkT 58 [(1, (.hp 0 0)), (3, (.int .i64 v13001_1))], [(.row [(.int .i64 x1), (.sl 2 (List.map e_u8_i64 x2)), (.bool x3), (.int .i64 x4)])]⟩
def E13_0_0 (x1 : Int) (x2 : List (Int × Int)) (x3 : Bool) (x4 : Int) : St := ⟨mkT 58 [(1, (.hp 0 0))], [(.row [(.int .i64 x1), (.sl 2 (List.map e_u8_i64 x2)), (.bool x3), (.int .i64 x4)])]⟩
def O13_0 (x1 : Int) (x2 : List (Int × Int)) (x3 : Bool) (x4 : Int) (y : (Sum (Unit) (Bool))) : GX := match y with
  | .inl y => .st (.exit 0) (E13_0_0 x1 x2 x3 x4)
  | .inr y => .fin (.bool y) []
theorem ok_ref09_Right_l0 (x1 : Int) (x2 : List (Int × Int)) (x3 : Bool) (x4 : Int) (y : (Sum (Unit) (Bool))) : ∀ (k : Nat) (v13001_1 : Int), ref09_Right_l0 k x1 x2 x3 x4 v13001_1 = some y → LT Try.prog X13 L13_0 (S13_0 x1 x2 x3 x4 v13001_1) (O13_0 x1 x2 x3 x4 y)
  | 0, v13001_1, h => by cases h
  | k + 1, v13001_1, h => by
    rw [ref09_Right_l0] at h
    by_cases cL0 : ltI v13001_1 (nI x2.length) = true
    · rw [if_pos cL0] at h
      by_cases cL1 : inI v13001_1 x2.length = true
      · rw [if_pos cL1] at h
        obtain ⟨v13000_1, eL2, h⟩ := Option.bind_eq_some_iff.1 h
        by_cases cL3 : ltI v13000_1.1 64 = true
        · rw [if_pos cL3] at h
          exact LT.next mixed (hs := ⟨[(1, []), (3, [])], [⟨.tmp 1, [], none⟩], false, [], []⟩) (es := none) [.n x2.length, .d true, .n x2.length, .row [(.int .u8 v13000_1.1)], .d false] [⟨(nF cL3)⟩, ⟨(cells_map (e := e_u8_i64) eL2 2 0 1 (by decide))⟩, ⟨cL1⟩, ⟨(len_map e_u8_i64 x2)⟩, ⟨cL0⟩, ⟨(len_map e_u8_i64 x2)⟩] (by kernel_rfl) (ok_ref09_Right_l0 x1 x2 x3 x4 y k (iadd .i64 v13001_1 1) h)
        · rw [if_neg cL3] at h
          replace cL3 := eqf cL3
          obtain rfl := Option.some.inj h
          show LT _ _ _ _ (.fin (.bool false) [])
          exact LT.done mixed (hs := ⟨[], [], false, [], []⟩) (es := none) [.n x2.length, .d true, .n x2.length, .row [(.int .u8 v13000_1.1)], .d true] [⟨(nT cL3)⟩, ⟨(cells_map (e := e_u8_i64) eL2 2 0 1 (by decide))⟩, ⟨cL1⟩, ⟨(len_map e_u8_i64 x2)⟩, ⟨cL0⟩, ⟨(len_map e_u8_i64 x2)⟩] (by kernel_rfl) (fun s h => by cases h)
      · rw [if_neg cL1] at h
        replace cL1 := eqf cL1
        cases h
    · rw [if_neg cL0] at h
      replace cL0 := eqf cL0
      obtain rfl := Option.some.inj h
      show LT _ _ _ _ (.st (.exit 0) (E13_0_0 x1 x2 x3 x4))
      exact LT.done mixed (hs := ⟨[], [], false, [], []⟩) (es := (some ⟨[(1, [])], [⟨.tmp 1, [], none⟩], false, [], []⟩)) [.n x2.length, .d false] [⟨cL0⟩, ⟨(len_map e_u8_i64 x2)⟩] (by kernel_rfl) (fun s h => by cases h)
theorem ok_ref09_Right (k : Nat) (x1 : Int) (x2 : List (Int × Int)) (x3 : Bool) (x4 : Int) (r : Bool) (h : ref09_Right k x1 x2 x3 x4 = some r) : Tri Try.prog 13 [(.agg [(.int .i64 x1), (.sl 2 (List.map e_u8_i64 x2)), (.bool x3), (.int .i64 x4)])] [] (.bool r) [] := by
    unfold ref09_Right at h
    obtain ⟨x5, e0, h⟩ := Option.bind_eq_some_iff.1 h
    cases x5 with
    | inl x6 =>
      simp only [Sum.elim_inl] at h
      by_cases c2 : ltI x1 0 = true
      · rw [if_pos c2] at h
        obtain rfl := Option.some.inj h
        exact Tri.of (x := X13) mixed facts13 [.norm 2 ⟨[(1, []), (3, [])], [⟨.tmp 1, [], none⟩], false, [], []⟩, .out (.st .normal (E13_0_0 x1 x2 x3 x4)), .d true, .d true, .d true, .d true, .d true, .d true, .d true, .d true, .d true, .d true] [⟨(rfl : true = true)⟩, ⟨(rfl : true = true)⟩, ⟨(rfl : true = true)⟩, ⟨(rfl : true = true)⟩, ⟨(rfl : true = true)⟩, ⟨(rfl : true = true)⟩, ⟨c2⟩, ⟨c2⟩, ⟨c2⟩, ⟨c2⟩, ⟨(LT.block (ok_ref09_Right_l0 x1 x2 x3 x4 _ k 0 e0))⟩] (by kernel_rfl)
      · rw [if_neg c2] at h
        replace c2 := eqf c2
        by_cases c3 : ltI 3 x1 = true
        · rw [if_pos c3] at h
          obtain rfl := Option.some.inj h
          exact Tri.of (x := X13) mixed facts13 [.norm 2 ⟨[(1, []), (3, [])], [⟨.tmp 1, [], none⟩], false, [], []⟩, .out (.st .normal (E13_0_0 x1 x2 x3 x4)), .d false, .d false, .d false, .d false, .d true, .d true, .d true, .d true, .d true, .d true] [⟨(rfl : true = true)⟩, ⟨c3⟩, ⟨c3⟩, ⟨c3⟩, ⟨c3⟩, ⟨c3⟩, ⟨c2⟩, ⟨c2⟩, ⟨c2⟩, ⟨c2⟩, ⟨(LT.block (ok_ref09_Right_l0 x1 x2 x3 x4 _ k 0 e0))⟩] (by kernel_rfl)
        · rw [if_neg c3] at h
          replace c3 := eqf c3
          by_cases c4 : ltI 50 (nI x2.length) = true
          · rw [if_pos c4] at h
            obtain rfl := Option.some.inj h
            exact Tri.of (x := X13) mixed facts13 [.norm 2 ⟨[(1, []), (3, [])], [⟨.tmp 1, [], none⟩], false, [], []⟩, .out (.st .normal (E13_0_0 x1 x2 x3 x4)), .d false, .d false, .d false, .d false, .d false, .d false, .d false, .n x2.length, .d false, .d false, .d true] [⟨c4⟩, ⟨c3⟩, ⟨c3⟩, ⟨(len_map e_u8_i64 x2)⟩, ⟨c3⟩, ⟨c3⟩, ⟨c3⟩, ⟨c2⟩, ⟨c2⟩, ⟨c2⟩, ⟨c2⟩, ⟨(LT.block (ok_ref09_Right_l0 x1 x2 x3 x4 _ k 0 e0))⟩] (by kernel_rfl)
          · rw [if_neg c4] at h
            replace c4 := eqf c4
            by_cases c5 : x3 = true
            · rw [if_pos c5] at h
              by_cases c6 : eqI x1 1 = true
              · rw [if_pos c6] at h
                by_cases c7 : eqI x1 3 = true
                · rw [if_pos c7] at h
                  by_cases c8 : eqI x4 1 = true
                  · rw [if_pos c8] at h
                    obtain rfl := Option.some.inj h
                    exact Tri.of (x := X13) mixed facts13 [.norm 2 ⟨[(1, []), (3, [])], [⟨.tmp 1, [], none⟩], false, [], []⟩, .out (.st .normal (E13_0_0 x1 x2 x3 x4)), .d false, .d false, .d false, .d false, .d false, .d false, .d false, .n x2.length, .d false, .d false, .d false, .d true, .d true, .d true, .d true, .d false, .d false, .d false, .d false, .d false, .d true, .d true, .d true, .d true, .d true] [⟨c8⟩, ⟨c8⟩, ⟨c8⟩, ⟨c8⟩, ⟨c7⟩, ⟨(rfl : false = false)⟩, ⟨(nF c6)⟩, ⟨(nF c6)⟩, ⟨(nF c6)⟩, ⟨(nF c6)⟩, ⟨c5⟩, ⟨c5⟩, ⟨c5⟩, ⟨c5⟩, ⟨c4⟩, ⟨c3⟩, ⟨c3⟩, ⟨(len_map e_u8_i64 x2)⟩, ⟨c3⟩, ⟨c3⟩, ⟨c3⟩, ⟨c2⟩, ⟨c2⟩, ⟨c2⟩, ⟨c2⟩, ⟨(LT.block (ok_ref09_Right_l0 x1 x2 x3 x4 _ k 0 e0))⟩] (by kernel_rfl)
                  · rw [if_neg c8] at h
                    replace c8 := eqf c8
                    obtain rfl := Option.some.inj h
                    exact Tri.of (x := X13) mixed facts13 [.norm 2 ⟨[(1, []), (3, [])], [⟨.tmp 1, [], none⟩], false, [], []⟩, .out (.st .normal (E13_0_0 x1 x2 x3 x4)), .d false, .d false, .d false, .d false, .d false, .d false, .d false, .n x2.length, .d false, .d false, .d false, .d true, .d true, .d true, .d true, .d false, .d false, .d false, .d false, .d false, .d true, .d false, .d false, .d false, .d false] [⟨c8⟩, ⟨c8⟩, ⟨c8⟩, ⟨c8⟩, ⟨c7⟩, ⟨(rfl : false = false)⟩, ⟨(nF c6)⟩, ⟨(nF c6)⟩, ⟨(nF c6)⟩, ⟨(nF c6)⟩, ⟨c5⟩, ⟨c5⟩, ⟨c5⟩, ⟨c5⟩, ⟨c4⟩, ⟨c3⟩, ⟨c3⟩, ⟨(len_map e_u8_i64 x2)⟩, ⟨c3⟩, ⟨c3⟩, ⟨c3⟩, ⟨c2⟩, ⟨c2⟩, ⟨c2⟩, ⟨c2⟩, ⟨(LT.block (ok_ref09_Right_l0 x1 x2 x3 x4 _ k 0 e0))⟩] (by kernel_rfl)
                · rw [if_neg c7] at h
                  replace c7 := eqf c7
                  obtain rfl := Option.some.inj h
                  exact Tri.of (x := X13) mixed facts13 [.norm 2 ⟨[(1, []), (3, [])], [⟨.tmp 1, [], none⟩], false, [], []⟩, .out (.st .normal (E13_0_0 x1 x2 x3 x4)), .d false, .d false, .d false, .d false, .d false, .d false, .d false, .n x2.length, .d false, .d false, .d false, .d true, .d true, .d true, .d true, .d false, .d false, .d false, .d false, .d false, .d false] [⟨c7⟩, ⟨(rfl : false = false)⟩, ⟨(nF c6)⟩, ⟨(nF c6)⟩, ⟨(nF c6)⟩, ⟨(nF c6)⟩, ⟨c5⟩, ⟨c5⟩, ⟨c5⟩, ⟨c5⟩, ⟨c4⟩, ⟨c3⟩, ⟨c3⟩, ⟨(len_map e_u8_i64 x2)⟩, ⟨c3⟩, ⟨c3⟩, ⟨c3⟩, ⟨c2⟩, ⟨c2⟩, ⟨c2⟩, ⟨c2⟩, ⟨(LT.block (ok_ref09_Right_l0 x1 x2 x3 x4 _ k 0 e0))⟩] (by kernel_rfl)
              · rw [if_neg c6] at h
                replace c6 := eqf c6
                by_cases c7 : eqI x1 3 = true
                · rw [if_pos c7] at h
                  by_cases c8 : eqI x4 1 = true
                  · rw [if_pos c8] at h
                    obtain rfl := Option.some.inj h
                    exact Tri.of (x := X13) mixed facts13 [.norm 2 ⟨[(1, []), (3, [])], [⟨.tmp 1, [], none⟩], false, [], []⟩, .out (.st .normal (E13_0_0 x1 x2 x3 x4)), .d false, .d false, .d false, .d false, .d false, .d false, .d false, .n x2.length, .d false, .d false, .d false, .d true, .d true, .d true, .d true, .d true, .d true, .d true, .d true, .d false, .d true, .d true, .d true, .d true, .d true] [⟨c8⟩, ⟨c8⟩, ⟨c8⟩, ⟨c8⟩, ⟨c7⟩, ⟨(nF c7)⟩, ⟨(nT c6)⟩, ⟨(nT c6)⟩, ⟨(nT c6)⟩, ⟨(nT c6)⟩, ⟨c5⟩, ⟨c5⟩, ⟨c5⟩, ⟨c5⟩, ⟨c4⟩, ⟨c3⟩, ⟨c3⟩, ⟨(len_map e_u8_i64 x2)⟩, ⟨c3⟩, ⟨c3⟩, ⟨c3⟩, ⟨c2⟩, ⟨c2⟩, ⟨c2⟩, ⟨c2⟩, ⟨(LT.block (ok_ref09_Right_l0 x1 x2 x3 x4 _ k 0 e0))⟩] (by kernel_rfl)
                  · rw [if_neg c8] at h
                    replace c8 := eqf c8
                    obtain rfl := Option.some.inj h
                    exact Tri.of (x := X13) mixed facts13 [.norm 2 ⟨[(1, []), (3, [])], [⟨.tmp 1, [], none⟩], false, [], []⟩, .out (.st .normal (E13_0_0 x1 x2 x3 x4)), .d false, .d false, .d false, .d false, .d false, .d false, .d false, .n x2.length, .d false, .d false, .d false, .d true, .d true, .d true, .d true, .d true, .d true, .d true, .d true, .d false, .d true, .d false, .d false, .d false, .d false] [⟨c8⟩, ⟨c8⟩, ⟨c8⟩, ⟨c8⟩, ⟨c7⟩, ⟨(nF c7)⟩, ⟨(nT c6)⟩, ⟨(nT c6)⟩, ⟨(nT c6)⟩, ⟨(nT c6)⟩, ⟨c5⟩, ⟨c5⟩, ⟨c5⟩, ⟨c5⟩, ⟨c4⟩, ⟨c3⟩, ⟨c3⟩, ⟨(len_map e_u8_i64 x2)⟩, ⟨c3⟩, ⟨c3⟩, ⟨c3⟩, ⟨c2⟩, ⟨c2⟩, ⟨c2⟩, ⟨c2⟩, ⟨(LT.block (ok_ref09_Right_l0 x1 x2 x3 x4 _ k 0 e0))⟩] (by kernel_rfl)
                · rw [if_neg c7] at h
                  replace c7 := eqf c7
                  obtain rfl := Option.some.inj h
                  exact Tri.of (x := X13) mixed facts13 [.norm 2 ⟨[(1, []), (3, [])], [⟨.tmp 1, [], none⟩], false, [], []⟩, .out (.st .normal (E13_0_0 x1 x2 x3 x4)), .d false, .d false, .d false, .d false, .d false, .d false, .d false, .n x2.length, .d false, .d false, .d false, .d true, .d true, .d true, .d true, .d true, .d true, .d true, .d true, .d true] [⟨(nT c7)⟩, ⟨(nT c6)⟩, ⟨(nT c6)⟩, ⟨(nT c6)⟩, ⟨(nT c6)⟩, ⟨c5⟩, ⟨c5⟩, ⟨c5⟩, ⟨c5⟩, ⟨c4⟩, ⟨c3⟩, ⟨c3⟩, ⟨(len_map e_u8_i64 x2)⟩, ⟨c3⟩, ⟨c3⟩, ⟨c3⟩, ⟨c2⟩, ⟨c2⟩, ⟨c2⟩, ⟨c2⟩, ⟨(LT.block (ok_ref09_Right_l0 x1 x2 x3 x4 _ k 0 e0))⟩] (by kernel_rfl)
            · rw [if_neg c5] at h
              replace c5 := eqf c5
              by_cases c6 : eqI x1 3 = true
              · rw [if_pos c6] at h
                by_cases c7 : eqI x4 1 = true
                · rw [if_pos c7] at h
                  obtain rfl := Option.some.inj h
                  exact Tri.of (x := X13) mixed facts13 [.norm 2 ⟨[(1, []), (3, [])], [⟨.tmp 1, [], none⟩], false, [], []⟩, .out (.st .normal (E13_0_0 x1 x2 x3 x4)), .d false, .d false, .d false, .d false, .d false, .d false, .d false, .n x2.length, .d false, .d false, .d false, .d false, .d false, .d false, .d false, .d false, .d false, .d false, .d false, .d false, .d true, .d true, .d true, .d true, .d true] [⟨c7⟩, ⟨c7⟩, ⟨c7⟩, ⟨c7⟩, ⟨c6⟩, ⟨(rfl : false = false)⟩, ⟨(rfl : false = false)⟩, ⟨(rfl : false = false)⟩, ⟨(rfl : false = false)⟩, ⟨(rfl : false = false)⟩, ⟨c5⟩, ⟨c5⟩, ⟨c5⟩, ⟨c5⟩, ⟨c4⟩, ⟨c3⟩, ⟨c3⟩, ⟨(len_map e_u8_i64 x2)⟩, ⟨c3⟩, ⟨c3⟩, ⟨c3⟩, ⟨c2⟩, ⟨c2⟩, ⟨c2⟩, ⟨c2⟩, ⟨(LT.block (ok_ref09_Right_l0 x1 x2 x3 x4 _ k 0 e0))⟩] (by kernel_rfl)
                · rw [if_neg c7] at h
                  replace c7 := eqf c7
                  obtain rfl := Option.some.inj h
                  exact Tri.of (x := X13) mixed facts13 [.norm 2 ⟨[(1, []), (3, [])], [⟨.tmp 1, [], none⟩], false, [], []⟩, .out (.st .normal (E13_0_0 x1 x2 x3 x4)), .d false, .d false, .d false, .d false, .d false, .d false, .d false, .n x2.length, .d false, .d false, .d false, .d false, .d false, .d false, .d false, .d false, .d false, .d false, .d false, .d false, .d true, .d false, .d false, .d false, .d false] [⟨c7⟩, ⟨c7⟩, ⟨c7⟩, ⟨c7⟩, ⟨c6⟩, ⟨(rfl : false = false)⟩, ⟨(rfl : false = false)⟩, ⟨(rfl : false = false)⟩, ⟨(rfl : false = false)⟩, ⟨(rfl : false = false)⟩, ⟨c5⟩, ⟨c5⟩, ⟨c5⟩, ⟨c5⟩, ⟨c4⟩, ⟨c3⟩, ⟨c3⟩, ⟨(len_map e_u8_i64 x2)⟩, ⟨c3⟩, ⟨c3⟩, ⟨c3⟩, ⟨c2⟩, ⟨c2⟩, ⟨c2⟩, ⟨c2⟩, ⟨(LT.block (ok_ref09_Right_l0 x1 x2 x3 x4 _ k 0 e0))⟩] (by kernel_rfl)
              · rw [if_neg c6] at h
                replace c6 := eqf c6
                obtain rfl := Option.some.inj h
                exact Tri.of (x := X13) mixed facts13 [.norm 2 ⟨[(1, []), (3, [])], [⟨.tmp 1, [], none⟩], false, [], []⟩, .out (.st .normal (E13_0_0 x1 x2 x3 x4)), .d false, .d false, .d false, .d false, .d false, .d false, .d false, .n x2.length, .d false, .d false, .d false, .d false, .d false, .d false, .d false, .d false, .d false, .d false, .d false, .d false, .d false] [⟨c6⟩, ⟨(rfl : false = false)⟩, ⟨(rfl : false = false)⟩, ⟨(rfl : false = false)⟩, ⟨(rfl : false = false)⟩, ⟨(rfl : false = false)⟩, ⟨c5⟩, ⟨c5⟩, ⟨c5⟩, ⟨c5⟩, ⟨c4⟩, ⟨c3⟩, ⟨c3⟩, ⟨(len_map e_u8_i64 x2)⟩, ⟨c3⟩, ⟨c3⟩, ⟨c3⟩, ⟨c2⟩, ⟨c2⟩, ⟨c2⟩, ⟨c2⟩, ⟨(LT.block (ok_ref09_Right_l0 x1 x2 x3 x4 _ k 0 e0))⟩] (by kernel_rfl)
    | inr x6 =>
      simp only [Sum.elim_inr] at h
      obtain rfl := Option.some.inj h
      exact Tri.of (x := X13) mixed facts13 [.norm 2 ⟨[(1, []), (3, [])], [⟨.tmp 1, [], none⟩], false, [], []⟩, .out (.fin (.bool x6) [])] [⟨(LT.blockFin (id := 0) (ok_ref09_Right_l0 x1 x2 x3 x4 _ k 0 e0))⟩] (by kernel_rfl)
end Go.Ws
