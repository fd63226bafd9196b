/-
  ref06_Right: what the machine makes of it. (Printed by my own program.)
  Conditions: none.
-/
import Derived.Test.YtgaodljkmdafdaaZPre
import Derived.Test.YtgaodljkmdafdaaZPure
import Derived.Test.YtgaodljkmdafdaaZW30
set_option linter.unusedVariables false
set_option linter.unusedSimpArgs false
namespace Go.Ws
open Go.Proofs
set_option linter.unusedSimpArgs false
set_option linter.unusedVariables false
set_option maxRecDepth 1000000
set_option maxHeartbeats 4000000
noncomputable def X19 : Ctx := ⟨Try.f19, [], true⟩
noncomputable def L19_1 : Code := at_ Try.f19 [1, 0, 1, 4, 5, 1, 0, 4, 1, 1, 1, 4, 5]
def S19_1 (x1 : Int) (x2 : List (Int × Int)) (v19000_1 : Int × Int) (v19011_1 : Int) (v19011_2 : Int) : St := ⟨mkT 71 [(1, (.hp 0 0)), (3, (.int .i64 v19011_1)), (4, (.hp 1 0)), (5, (.int .i64 v19011_2))], [(.row [(.int .i64 x1), (.sl 2 (List.map e_i64_i64 x2))]), (.row [(.int .i64 v19000_1.1), (.int .i64 v19000_1.2)])]⟩
def E19_1_2 (x1 : Int) (x2 : List (Int × Int)) (v19012_1 : Int) : St := ⟨mkT 71 [(1, (.hp 0 0)), (3, (.int .i64 v19012_1))], [(.row [(.int .i64 x1), (.sl 2 (List.map e_i64_i64 x2))])]⟩
def O19_1 (x1 : Int) (x2 : List (Int × Int)) (v19000_1 : Int × Int) (y : (Sum (Int) (Bool))) : GX := match y with
  | .inl y => .st (.exit 2) (E19_1_2 x1 x2 y)
  | .inr y => .fin (.bool y) []
noncomputable def L19_0 : Code := at_ Try.f19 [1, 0, 1, 4, 5]
def S19_0 (x1 : Int) (x2 : List (Int × Int)) (v19001_1 : Int) : St := ⟨mkT 71 [(1, (.hp 0 0)), (3, (.int .i64 v19001_1))], [(.row [(.int .i64 x1), (.sl 2 (List.map e_i64_i64 x2))])]⟩
def E19_0_0 (x1 : Int) (x2 : List (Int × Int)) : St := ⟨mkT 71 [(1, (.hp 0 0))], [(.row [(.int .i64 x1), (.sl 2 (List.map e_i64_i64 x2))])]⟩
def O19_0 (x1 : Int) (x2 : List (Int × Int)) (y : (Sum (Unit) (Bool))) : GX := match y with
  | .inl y => .st (.exit 0) (E19_0_0 x1 x2)
  | .inr y => .fin (.bool y) []
theorem ok_ref06_Right_l1 (x1 : Int) (x2 : List (Int × Int)) (v19000_1 : Int × Int) (y : (Sum (Int) (Bool))) : ∀ (k : Nat) (v19011_1 : Int) (v19011_2 : Int), ref06_Right_l1 k x1 x2 v19000_1 v19011_1 v19011_2 = some y → LT Try.prog X19 L19_1 (S19_1 x1 x2 v19000_1 v19011_1 v19011_2) (O19_1 x1 x2 v19000_1 y)
  | 0, v19011_1, v19011_2, h => by cases h
  | k + 1, v19011_1, v19011_2, h => by
    rw [ref06_Right_l1] at h
    by_cases cL0 : ltI v19011_2 v19011_1 = true
    · rw [if_pos cL0] at h
      by_cases cL1 : inI v19011_2 x2.length = true
      · rw [if_pos cL1] at h
        obtain ⟨v19010_1, eL2, h⟩ := Option.bind_eq_some_iff.1 h
        by_cases cL3 : eqI v19010_1.1 v19000_1.1 = true
        · rw [if_pos cL3] at h
          obtain rfl := Option.some.inj h
          show LT _ _ _ _ (.fin (.bool false) [])
          exact LT.done mixed (hs := ⟨[], [], false, [], []⟩) (es := none) [.d true, .n x2.length, .row [(.int .i64 v19010_1.1)], .d true] [⟨cL3⟩, ⟨(cells_map (e := e_i64_i64) eL2 2 0 1 (by decide))⟩, ⟨cL1⟩, ⟨(len_map e_i64_i64 x2)⟩, ⟨cL0⟩] (by kernel_rfl) (fun s h => by cases h)
        · rw [if_neg cL3] at h
          replace cL3 := eqf cL3
          exact LT.next mixed (hs := ⟨[(1, []), (3, []), (4, []), (5, [])], [⟨.tmp 1, [], none⟩, ⟨.tmp 4, [], none⟩], false, [], []⟩) (es := none) [.d true, .n x2.length, .row [(.int .i64 v19010_1.1)], .d false] [⟨cL3⟩, ⟨(cells_map (e := e_i64_i64) eL2 2 0 1 (by decide))⟩, ⟨cL1⟩, ⟨(len_map e_i64_i64 x2)⟩, ⟨cL0⟩] (by kernel_rfl) (ok_ref06_Right_l1 x1 x2 v19000_1 y k v19011_1 (iadd .i64 v19011_2 1) h)
      · rw [if_neg cL1] at h
        replace cL1 := eqf cL1
        cases h
    · rw [if_neg cL0] at h
      replace cL0 := eqf cL0
      obtain rfl := Option.some.inj h
      show LT _ _ _ _ (.st (.exit 2) (E19_1_2 x1 x2 v19011_1))
      exact LT.done mixed (hs := ⟨[], [], false, [], []⟩) (es := (some ⟨[(1, []), (3, [])], [⟨.tmp 1, [], none⟩], false, [], []⟩)) [.d false] [⟨cL0⟩] (by kernel_rfl) (fun s h => by cases h)
theorem ok_ref06_Right_l0 (x1 : Int) (x2 : List (Int × Int)) (y : (Sum (Unit) (Bool))) : ∀ (k : Nat) (v19001_1 : Int), ref06_Right_l0 k x1 x2 v19001_1 = some y → LT Try.prog X19 L19_0 (S19_0 x1 x2 v19001_1) (O19_0 x1 x2 y)
  | 0, v19001_1, h => by cases h
  | k + 1, v19001_1, h => by
    rw [ref06_Right_l0] at h
    by_cases cL0 : ltI v19001_1 (nI x2.length) = true
    · rw [if_pos cL0] at h
      by_cases cL1 : inI v19001_1 x2.length = true
      · rw [if_pos cL1] at h
        obtain ⟨v19000_1, eL2, h⟩ := Option.bind_eq_some_iff.1 h
        by_cases cL3 : ltI x1 v19000_1.2 = true
        · rw [if_pos cL3] at h
          by_cases cL4 : ltI 1099511627776 v19000_1.2 = true
          · rw [if_pos cL4] at h
            obtain rfl := Option.some.inj h
            show LT _ _ _ _ (.fin (.bool false) [])
            exact LT.done mixed (hs := ⟨[], [], false, [], []⟩) (es := none) [.n x2.length, .d true, .n x2.length, .row [(.int .i64 v19000_1.1), (.int .i64 v19000_1.2)], .d false, .d false, .d false, .d false, .d true, .d true, .d true, .d true, .d true, .d true] [⟨(rfl : true = true)⟩, ⟨cL4⟩, ⟨cL4⟩, ⟨cL4⟩, ⟨cL4⟩, ⟨cL4⟩, ⟨(nF cL3)⟩, ⟨(nF cL3)⟩, ⟨(nF cL3)⟩, ⟨(nF cL3)⟩, ⟨(cells_map (e := e_i64_i64) eL2 2 0 2 (by decide))⟩, ⟨cL1⟩, ⟨(len_map e_i64_i64 x2)⟩, ⟨cL0⟩, ⟨(len_map e_i64_i64 x2)⟩] (by kernel_rfl) (fun s h => by cases h)
          · rw [if_neg cL4] at h
            replace cL4 := eqf cL4
            by_cases cL5 : ltI 0 v19001_1 = true
            · rw [if_pos cL5] at h
              by_cases cL6 : inI (isub .i64 v19001_1 1) x2.length = true
              · rw [if_pos cL6] at h
                obtain ⟨v19000_2, eL7, h⟩ := Option.bind_eq_some_iff.1 h
                by_cases cL8 : (ref06_ahead v19000_2.1 v19000_2.2 v19000_1.1 v19000_1.2) = true
                · rw [if_pos cL8] at h
                  obtain ⟨v19000_3, eL9, h⟩ := Option.bind_eq_some_iff.1 h
                  cases v19000_3 with
                  | inl v19000_4 =>
                    simp only [Sum.elim_inl] at h
                    exact LT.next mixed (hs := ⟨[(1, []), (3, [])], [⟨.tmp 1, [], none⟩], false, [], []⟩) (es := none) [.n x2.length, .d true, .n x2.length, .row [(.int .i64 v19000_1.1), (.int .i64 v19000_1.2)], .d false, .d false, .d false, .d false, .d false, .d false, .d false, .d true, .d true, .d true, .d true, .d true, .n x2.length, .d true, .row [(.int .i64 v19000_2.1), (.int .i64 v19000_2.2)], .d true, .d true, .call ⟨true, []⟩ (.bool (ref06_ahead v19000_2.1 v19000_2.2 v19000_1.1 v19000_1.2)) [], .d true, .d false, .d true, .d false, .d false, .norm 8 ⟨[(1, []), (3, []), (4, []), (5, [])], [⟨.tmp 1, [], none⟩, ⟨.tmp 4, [], none⟩], false, [], []⟩, .out (.st .normal (E19_1_2 x1 x2 v19000_4))] [⟨(LT.block (ok_ref06_Right_l1 x1 x2 v19000_1 _ k v19001_1 0 eL9))⟩, ⟨(nF cL8)⟩, ⟨cL4⟩, ⟨cL5⟩, ⟨cL4⟩, ⟨cL5⟩, ⟨(ok_ref06_ahead v19000_2.1 v19000_2.2 v19000_1.1 v19000_1.2)⟩, ⟨cL5⟩, ⟨cL5⟩, ⟨(cells_map (e := e_i64_i64) eL7 2 0 2 (by decide))⟩, ⟨cL5⟩, ⟨cL6⟩, ⟨(len_map e_i64_i64 x2)⟩, ⟨cL5⟩, ⟨cL5⟩, ⟨cL5⟩, ⟨cL5⟩, ⟨cL5⟩, ⟨cL4⟩, ⟨cL4⟩, ⟨cL4⟩, ⟨(nF cL3)⟩, ⟨(nF cL3)⟩, ⟨(nF cL3)⟩, ⟨(nF cL3)⟩, ⟨(cells_map (e := e_i64_i64) eL2 2 0 2 (by decide))⟩, ⟨cL1⟩, ⟨(len_map e_i64_i64 x2)⟩, ⟨cL0⟩, ⟨(len_map e_i64_i64 x2)⟩] (by kernel_rfl) (ok_ref06_Right_l0 x1 x2 y k (iadd .i64 v19000_4 1) h)
                  | inr v19000_4 =>
                    simp only [Sum.elim_inr] at h
                    obtain rfl := Option.some.inj h
                    show LT _ _ _ _ (.fin (.bool v19000_4) [])
                    exact LT.done mixed (hs := ⟨[], [], false, [], []⟩) (es := none) [.n x2.length, .d true, .n x2.length, .row [(.int .i64 v19000_1.1), (.int .i64 v19000_1.2)], .d false, .d false, .d false, .d false, .d false, .d false, .d false, .d true, .d true, .d true, .d true, .d true, .n x2.length, .d true, .row [(.int .i64 v19000_2.1), (.int .i64 v19000_2.2)], .d true, .d true, .call ⟨true, []⟩ (.bool (ref06_ahead v19000_2.1 v19000_2.2 v19000_1.1 v19000_1.2)) [], .d true, .d false, .d true, .d false, .d false, .norm 8 ⟨[(1, []), (3, []), (4, []), (5, [])], [⟨.tmp 1, [], none⟩, ⟨.tmp 4, [], none⟩], false, [], []⟩, .out (.fin (.bool v19000_4) [])] [⟨(LT.blockFin (id := 2) (ok_ref06_Right_l1 x1 x2 v19000_1 _ k v19001_1 0 eL9))⟩, ⟨(nF cL8)⟩, ⟨cL4⟩, ⟨cL5⟩, ⟨cL4⟩, ⟨cL5⟩, ⟨(ok_ref06_ahead v19000_2.1 v19000_2.2 v19000_1.1 v19000_1.2)⟩, ⟨cL5⟩, ⟨cL5⟩, ⟨(cells_map (e := e_i64_i64) eL7 2 0 2 (by decide))⟩, ⟨cL5⟩, ⟨cL6⟩, ⟨(len_map e_i64_i64 x2)⟩, ⟨cL5⟩, ⟨cL5⟩, ⟨cL5⟩, ⟨cL5⟩, ⟨cL5⟩, ⟨cL4⟩, ⟨cL4⟩, ⟨cL4⟩, ⟨(nF cL3)⟩, ⟨(nF cL3)⟩, ⟨(nF cL3)⟩, ⟨(nF cL3)⟩, ⟨(cells_map (e := e_i64_i64) eL2 2 0 2 (by decide))⟩, ⟨cL1⟩, ⟨(len_map e_i64_i64 x2)⟩, ⟨cL0⟩, ⟨(len_map e_i64_i64 x2)⟩] (by kernel_rfl) (fun s h => by cases h)
                · rw [if_neg cL8] at h
                  replace cL8 := eqf cL8
                  obtain rfl := Option.some.inj h
                  show LT _ _ _ _ (.fin (.bool false) [])
                  exact LT.done mixed (hs := ⟨[], [], false, [], []⟩) (es := none) [.n x2.length, .d true, .n x2.length, .row [(.int .i64 v19000_1.1), (.int .i64 v19000_1.2)], .d false, .d false, .d false, .d false, .d false, .d false, .d false, .d true, .d true, .d true, .d true, .d true, .n x2.length, .d true, .row [(.int .i64 v19000_2.1), (.int .i64 v19000_2.2)], .d true, .d true, .call ⟨true, []⟩ (.bool (ref06_ahead v19000_2.1 v19000_2.2 v19000_1.1 v19000_1.2)) [], .d true, .d false, .d true, .d false, .d true] [⟨(nT cL8)⟩, ⟨cL4⟩, ⟨cL5⟩, ⟨cL4⟩, ⟨cL5⟩, ⟨(ok_ref06_ahead v19000_2.1 v19000_2.2 v19000_1.1 v19000_1.2)⟩, ⟨cL5⟩, ⟨cL5⟩, ⟨(cells_map (e := e_i64_i64) eL7 2 0 2 (by decide))⟩, ⟨cL5⟩, ⟨cL6⟩, ⟨(len_map e_i64_i64 x2)⟩, ⟨cL5⟩, ⟨cL5⟩, ⟨cL5⟩, ⟨cL5⟩, ⟨cL5⟩, ⟨cL4⟩, ⟨cL4⟩, ⟨cL4⟩, ⟨(nF cL3)⟩, ⟨(nF cL3)⟩, ⟨(nF cL3)⟩, ⟨(nF cL3)⟩, ⟨(cells_map (e := e_i64_i64) eL2 2 0 2 (by decide))⟩, ⟨cL1⟩, ⟨(len_map e_i64_i64 x2)⟩, ⟨cL0⟩, ⟨(len_map e_i64_i64 x2)⟩] (by kernel_rfl) (fun s h => by cases h)
              · rw [if_neg cL6] at h
                replace cL6 := eqf cL6
                cases h
            · rw [if_neg cL5] at h
              replace cL5 := eqf cL5
              obtain ⟨v19000_2, eL6, h⟩ := Option.bind_eq_some_iff.1 h
              cases v19000_2 with
              | inl v19000_3 =>
                simp only [Sum.elim_inl] at h
                exact LT.next mixed (hs := ⟨[(1, []), (3, [])], [⟨.tmp 1, [], none⟩], false, [], []⟩) (es := none) [.n x2.length, .d true, .n x2.length, .row [(.int .i64 v19000_1.1), (.int .i64 v19000_1.2)], .d false, .d false, .d false, .d false, .d false, .d false, .d false, .d false, .d false, .d false, .d false, .d false, .d false, .d false, .d false, .d false, .d false, .d false, .d false, .d false, .norm 8 ⟨[(1, []), (3, []), (4, []), (5, [])], [⟨.tmp 1, [], none⟩, ⟨.tmp 4, [], none⟩], false, [], []⟩, .out (.st .normal (E19_1_2 x1 x2 v19000_3))] [⟨(LT.block (ok_ref06_Right_l1 x1 x2 v19000_1 _ k v19001_1 0 eL6))⟩, ⟨(rfl : false = false)⟩, ⟨cL4⟩, ⟨cL5⟩, ⟨cL4⟩, ⟨cL5⟩, ⟨cL5⟩, ⟨cL5⟩, ⟨cL5⟩, ⟨cL5⟩, ⟨cL5⟩, ⟨cL5⟩, ⟨cL5⟩, ⟨cL5⟩, ⟨cL4⟩, ⟨cL4⟩, ⟨cL4⟩, ⟨(nF cL3)⟩, ⟨(nF cL3)⟩, ⟨(nF cL3)⟩, ⟨(nF cL3)⟩, ⟨(cells_map (e := e_i64_i64) eL2 2 0 2 (by decide))⟩, ⟨cL1⟩, ⟨(len_map e_i64_i64 x2)⟩, ⟨cL0⟩, ⟨(len_map e_i64_i64 x2)⟩] (by kernel_rfl) (ok_ref06_Right_l0 x1 x2 y k (iadd .i64 v19000_3 1) h)
              | inr v19000_3 =>
                simp only [Sum.elim_inr] at h
                obtain rfl := Option.some.inj h
                show LT _ _ _ _ (.fin (.bool v19000_3) [])
                exact LT.done mixed (hs := ⟨[], [], false, [], []⟩) (es := none) [.n x2.length, .d true, .n x2.length, .row [(.int .i64 v19000_1.1), (.int .i64 v19000_1.2)], .d false, .d false, .d false, .d false, .d false, .d false, .d false, .d false, .d false, .d false, .d false, .d false, .d false, .d false, .d false, .d false, .d false, .d false, .d false, .d false, .norm 8 ⟨[(1, []), (3, []), (4, []), (5, [])], [⟨.tmp 1, [], none⟩, ⟨.tmp 4, [], none⟩], false, [], []⟩, .out (.fin (.bool v19000_3) [])] [⟨(LT.blockFin (id := 2) (ok_ref06_Right_l1 x1 x2 v19000_1 _ k v19001_1 0 eL6))⟩, ⟨(rfl : false = false)⟩, ⟨cL4⟩, ⟨cL5⟩, ⟨cL4⟩, ⟨cL5⟩, ⟨cL5⟩, ⟨cL5⟩, ⟨cL5⟩, ⟨cL5⟩, ⟨cL5⟩, ⟨cL5⟩, ⟨cL5⟩, ⟨cL5⟩, ⟨cL4⟩, ⟨cL4⟩, ⟨cL4⟩, ⟨(nF cL3)⟩, ⟨(nF cL3)⟩, ⟨(nF cL3)⟩, ⟨(nF cL3)⟩, ⟨(cells_map (e := e_i64_i64) eL2 2 0 2 (by decide))⟩, ⟨cL1⟩, ⟨(len_map e_i64_i64 x2)⟩, ⟨cL0⟩, ⟨(len_map e_i64_i64 x2)⟩] (by kernel_rfl) (fun s h => by cases h)
        · rw [if_neg cL3] at h
          replace cL3 := eqf cL3
          obtain rfl := Option.some.inj h
          show LT _ _ _ _ (.fin (.bool false) [])
          exact LT.done mixed (hs := ⟨[], [], false, [], []⟩) (es := none) [.n x2.length, .d true, .n x2.length, .row [(.int .i64 v19000_1.1), (.int .i64 v19000_1.2)], .d true, .d true, .d true, .d true, .d true, .d true, .d true, .d true, .d true, .d true] [⟨(rfl : true = true)⟩, ⟨(rfl : true = true)⟩, ⟨(rfl : true = true)⟩, ⟨(rfl : true = true)⟩, ⟨(rfl : true = true)⟩, ⟨(rfl : true = true)⟩, ⟨(nT cL3)⟩, ⟨(nT cL3)⟩, ⟨(nT cL3)⟩, ⟨(nT cL3)⟩, ⟨(cells_map (e := e_i64_i64) eL2 2 0 2 (by decide))⟩, ⟨cL1⟩, ⟨(len_map e_i64_i64 x2)⟩, ⟨cL0⟩, ⟨(len_map e_i64_i64 x2)⟩] (by kernel_rfl) (fun s h => by cases h)
      · rw [if_neg cL1] at h
        replace cL1 := eqf cL1
        cases h
    · rw [if_neg cL0] at h
      replace cL0 := eqf cL0
      obtain rfl := Option.some.inj h
      show LT _ _ _ _ (.st (.exit 0) (E19_0_0 x1 x2))
      exact LT.done mixed (hs := ⟨[], [], false, [], []⟩) (es := (some ⟨[(1, [])], [⟨.tmp 1, [], none⟩], false, [], []⟩)) [.n x2.length, .d false] [⟨cL0⟩, ⟨(len_map e_i64_i64 x2)⟩] (by kernel_rfl) (fun s h => by cases h)
theorem ok_ref06_Right (k : Nat) (x1 : Int) (x2 : List (Int × Int)) (r : Bool) (h : ref06_Right k x1 x2 = some r) : Tri Try.prog 19 [(.agg [(.int .i64 x1), (.sl 2 (List.map e_i64_i64 x2))])] [] (.bool r) [] := by
    unfold ref06_Right at h
    obtain ⟨x3, e0, h⟩ := Option.bind_eq_some_iff.1 h
    cases x3 with
    | inl x4 =>
      simp only [Sum.elim_inl] at h
      by_cases c2 : ltI x1 0 = true
      · rw [if_pos c2] at h
        obtain rfl := Option.some.inj h
        exact Tri.of (x := X19) mixed facts19 [.norm 2 ⟨[(1, []), (3, [])], [⟨.tmp 1, [], none⟩], false, [], []⟩, .out (.st .normal (E19_0_0 x1 x2)), .d false, .d false, .d false, .d false, .d false, .d false, .d false, .d false, .d false] [⟨(rfl : false = false)⟩, ⟨(rfl : false = false)⟩, ⟨(rfl : false = false)⟩, ⟨(rfl : false = false)⟩, ⟨(rfl : false = false)⟩, ⟨(nF c2)⟩, ⟨(nF c2)⟩, ⟨(nF c2)⟩, ⟨(nF c2)⟩, ⟨(LT.block (ok_ref06_Right_l0 x1 x2 _ k 0 e0))⟩] (by kernel_rfl)
      · rw [if_neg c2] at h
        replace c2 := eqf c2
        by_cases c3 : ltI 1099511627776 x1 = true
        · rw [if_pos c3] at h
          obtain rfl := Option.some.inj h
          exact Tri.of (x := X19) mixed facts19 [.norm 2 ⟨[(1, []), (3, [])], [⟨.tmp 1, [], none⟩], false, [], []⟩, .out (.st .normal (E19_0_0 x1 x2)), .d true, .d true, .d true, .d true, .d false, .d false, .d false, .d false, .d false] [⟨(nF c3)⟩, ⟨(nF c3)⟩, ⟨(nF c3)⟩, ⟨(nF c3)⟩, ⟨(nF c3)⟩, ⟨(nT c2)⟩, ⟨(nT c2)⟩, ⟨(nT c2)⟩, ⟨(nT c2)⟩, ⟨(LT.block (ok_ref06_Right_l0 x1 x2 _ k 0 e0))⟩] (by kernel_rfl)
        · rw [if_neg c3] at h
          replace c3 := eqf c3
          obtain rfl := Option.some.inj h
          exact Tri.of (x := X19) mixed facts19 [.norm 2 ⟨[(1, []), (3, [])], [⟨.tmp 1, [], none⟩], false, [], []⟩, .out (.st .normal (E19_0_0 x1 x2)), .d true, .d true, .d true, .d true, .d true, .d true, .d true, .n x2.length, .d true, .d true] [⟨(nT c3)⟩, ⟨(nT c3)⟩, ⟨(len_map e_i64_i64 x2)⟩, ⟨(nT c3)⟩, ⟨(nT c3)⟩, ⟨(nT c3)⟩, ⟨(nT c2)⟩, ⟨(nT c2)⟩, ⟨(nT c2)⟩, ⟨(nT c2)⟩, ⟨(LT.block (ok_ref06_Right_l0 x1 x2 _ k 0 e0))⟩] (by kernel_rfl)
    | inr x4 =>
      simp only [Sum.elim_inr] at h
      obtain rfl := Option.some.inj h
      exact Tri.of (x := X19) mixed facts19 [.norm 2 ⟨[(1, []), (3, [])], [⟨.tmp 1, [], none⟩], false, [], []⟩, .out (.fin (.bool x4) [])] [⟨(LT.blockFin (id := 0) (ok_ref06_Right_l0 x1 x2 _ k 0 e0))⟩] (by kernel_rfl)
end Go.Ws
