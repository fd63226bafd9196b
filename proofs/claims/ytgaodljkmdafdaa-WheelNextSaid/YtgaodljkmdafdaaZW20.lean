/-
  wheel_Right: what the machine makes of it. (Printed by my own program.)
  Conditions: none.
-/
import Derived.Test.YtgaodljkmdafdaaZPre
import Derived.Test.YtgaodljkmdafdaaZPure
import Derived.Test.YtgaodljkmdafdaaZW27
set_option linter.unusedVariables false
set_option linter.unusedSimpArgs false
namespace Go.Ws
open Go.Proofs
set_option linter.unusedSimpArgs false
set_option linter.unusedVariables false
set_option maxRecDepth 1000000
set_option maxHeartbeats 4000000
noncomputable def X20 : Ctx := ⟨Try.f20, [], true⟩
noncomputable def L20_0 : Code := at_ Try.f20 [1, 1, 1, 0, 1, 4, 5]
def S20_0 (x1 : Int) (x2 : List (Int × Int)) (v20001_1 : Int) (v20001_2 : List (Int × Unit)) : St := ⟨mkT 71 [(1, (.hp 0 0)), (3, (.mp 1)), (24, (.sl 2 (List.map e_i64_i64 x2))), (25, (.int .i64 (nI x2.length))), (26, (.int .i64 v20001_1))], [(.row [(.int .i64 x1), (.sl 2 (List.map e_i64_i64 x2))]), (.map (encM .i64 (fun y => AV.agg (e_unit y)) v20001_2) v20001_2.length)]⟩
def E20_0_0 : St := ⟨mkT 71 [], []⟩
def O20_0 (x1 : Int) (x2 : List (Int × Int)) (y : (Sum (Unit) (Bool))) : GX := match y with
  | .inl y => .st (.exit 0) (E20_0_0)
  | .inr y => .fin (.bool y) []
theorem ok_wheel_Right_l0 (x1 : Int) (x2 : List (Int × Int)) (y : (Sum (Unit) (Bool))) : ∀ (k : Nat) (v20001_1 : Int) (v20001_2 : List (Int × Unit)), wheel_Right_l0 k x1 x2 v20001_1 v20001_2 = some y → LT Try.prog X20 L20_0 (S20_0 x1 x2 v20001_1 v20001_2) (O20_0 x1 x2 y)
  | 0, v20001_1, v20001_2, h => by cases h
  | k + 1, v20001_1, v20001_2, h => by
    rw [wheel_Right_l0] at h
    by_cases cL0 : ltI v20001_1 (nI x2.length) = true
    · rw [if_pos cL0] at h
      by_cases cL1 : inI v20001_1 x2.length = true
      · rw [if_pos cL1] at h
        obtain ⟨v20000_1, eL2, h⟩ := Option.bind_eq_some_iff.1 h
        by_cases cL3 : mHas v20001_2 v20000_1.1 = true
        · rw [if_pos cL3] at h
          obtain ⟨v20000_2, eL4, h⟩ := Option.bind_eq_some_iff.1 h
          obtain rfl := Option.some.inj h
          show LT _ _ _ _ (.fin (.bool false) [])
          exact LT.done mixed (hs := ⟨[], [], false, [], []⟩) (es := none) [.d true, .n x2.length, .row [(.int .i64 v20000_1.1), (.int .i64 v20000_1.2)], .opt (some (.agg [])), .d true, .d true, .d true, .d true, .d true, .d true, .d true, .d true, .d true, .d true, .d true, .d true, .d true, .d true, .d true, .d true] [⟨(rfl : true = true)⟩, ⟨(rfl : true = true)⟩, ⟨(rfl : true = true)⟩, ⟨(rfl : true = true)⟩, ⟨(rfl : true = true)⟩, ⟨(rfl : true = true)⟩, ⟨(rfl : true = true)⟩, ⟨(rfl : true = true)⟩, ⟨(rfl : true = true)⟩, ⟨(rfl : true = true)⟩, ⟨(rfl : true = true)⟩, ⟨(rfl : true = true)⟩, ⟨(rfl : true = true)⟩, ⟨(rfl : true = true)⟩, ⟨(rfl : true = true)⟩, ⟨(rfl : true = true)⟩, ⟨(look_some .i64 (fun y => AV.agg (e_unit y)) eL4)⟩, ⟨(cells_map (e := e_i64_i64) eL2 2 0 2 (by decide))⟩, ⟨cL1⟩, ⟨(len_map e_i64_i64 x2)⟩, ⟨cL0⟩] (by kernel_rfl) (fun s h => by cases h)
        · rw [if_neg cL3] at h
          replace cL3 := eqf cL3
          by_cases cL4 : ltI x1 v20000_1.2 = true
          · rw [if_pos cL4] at h
            by_cases cL5 : ltI 1099511627776 v20000_1.2 = true
            · rw [if_pos cL5] at h
              obtain rfl := Option.some.inj h
              show LT _ _ _ _ (.fin (.bool false) [])
              exact LT.done mixed (hs := ⟨[], [], false, [], []⟩) (es := none) [.d true, .n x2.length, .row [(.int .i64 v20000_1.1), (.int .i64 v20000_1.2)], .opt none, .d false, .d false, .d false, .d false, .d false, .d false, .d false, .d false, .d false, .d false, .d true, .d true, .d true, .d true, .d true, .d true] [⟨(rfl : true = true)⟩, ⟨cL5⟩, ⟨cL5⟩, ⟨cL5⟩, ⟨cL5⟩, ⟨cL5⟩, ⟨(nF cL4)⟩, ⟨(nF cL4)⟩, ⟨(nF cL4)⟩, ⟨(nF cL4)⟩, ⟨(rfl : false = false)⟩, ⟨(rfl : false = false)⟩, ⟨(rfl : false = false)⟩, ⟨(rfl : false = false)⟩, ⟨(rfl : false = false)⟩, ⟨(rfl : false = false)⟩, ⟨(look_none .i64 (fun y => AV.agg (e_unit y)) cL3)⟩, ⟨(cells_map (e := e_i64_i64) eL2 2 0 2 (by decide))⟩, ⟨cL1⟩, ⟨(len_map e_i64_i64 x2)⟩, ⟨cL0⟩] (by kernel_rfl) (fun s h => by cases h)
            · rw [if_neg cL5] at h
              replace cL5 := eqf cL5
              by_cases cL6 : ltI 0 v20001_1 = true
              · rw [if_pos cL6] at h
                by_cases cL7 : inI (isub .i64 v20001_1 1) x2.length = true
                · rw [if_pos cL7] at h
                  obtain ⟨v20000_2, eL8, h⟩ := Option.bind_eq_some_iff.1 h
                  obtain ⟨v20000_3, eL9, h⟩ := Option.bind_eq_some_iff.1 h
                  by_cases cL10 : ltI v20000_3 0 = true
                  · rw [if_pos cL10] at h
                    exact LT.next mixed (hs := ⟨[(1, []), (3, []), (24, []), (25, []), (26, [])], [⟨.tmp 1, [], none⟩, ⟨.tmp 3, [], none⟩], false, [], []⟩) (es := none) [.d true, .n x2.length, .row [(.int .i64 v20000_1.1), (.int .i64 v20000_1.2)], .opt none, .d false, .d false, .d false, .d false, .d false, .d false, .d false, .d false, .d false, .d false, .d false, .d false, .d false, .d true, .d true, .d true, .d true, .d true, .n x2.length, .d true, .row [(.int .i64 v20000_2.1), (.int .i64 v20000_2.2)], .d true, .d true, .call ⟨true, []⟩ (.int .i64 v20000_3) [], .d true, .d false, .d true, .d false, .d false, .ents (encM .i64 (fun y => AV.agg (e_unit y)) (mPut v20001_2 v20000_1.1 ())) (mPut v20001_2 v20000_1.1 ()).length] [⟨(put_enc .i64 (fun y => AV.agg (e_unit y)) v20001_2 v20000_1.1 ())⟩, ⟨(nF cL10)⟩, ⟨cL5⟩, ⟨cL6⟩, ⟨cL5⟩, ⟨cL6⟩, ⟨(ok_wheel_order k v20000_2.1 v20000_2.2 v20000_1.1 v20000_1.2 _ eL9)⟩, ⟨cL6⟩, ⟨cL6⟩, ⟨(cells_map (e := e_i64_i64) eL8 2 0 2 (by decide))⟩, ⟨cL6⟩, ⟨cL7⟩, ⟨(len_map e_i64_i64 x2)⟩, ⟨cL6⟩, ⟨cL6⟩, ⟨cL6⟩, ⟨cL6⟩, ⟨cL6⟩, ⟨cL5⟩, ⟨cL5⟩, ⟨cL5⟩, ⟨(nF cL4)⟩, ⟨(nF cL4)⟩, ⟨(nF cL4)⟩, ⟨(nF cL4)⟩, ⟨(rfl : false = false)⟩, ⟨(rfl : false = false)⟩, ⟨(rfl : false = false)⟩, ⟨(rfl : false = false)⟩, ⟨(rfl : false = false)⟩, ⟨(rfl : false = false)⟩, ⟨(look_none .i64 (fun y => AV.agg (e_unit y)) cL3)⟩, ⟨(cells_map (e := e_i64_i64) eL2 2 0 2 (by decide))⟩, ⟨cL1⟩, ⟨(len_map e_i64_i64 x2)⟩, ⟨cL0⟩] (by kernel_rfl) (ok_wheel_Right_l0 x1 x2 y k (iadd .i64 v20001_1 1) (mPut v20001_2 v20000_1.1 ()) h)
                  · rw [if_neg cL10] at h
                    replace cL10 := eqf cL10
                    obtain rfl := Option.some.inj h
                    show LT _ _ _ _ (.fin (.bool false) [])
                    exact LT.done mixed (hs := ⟨[], [], false, [], []⟩) (es := none) [.d true, .n x2.length, .row [(.int .i64 v20000_1.1), (.int .i64 v20000_1.2)], .opt none, .d false, .d false, .d false, .d false, .d false, .d false, .d false, .d false, .d false, .d false, .d false, .d false, .d false, .d true, .d true, .d true, .d true, .d true, .n x2.length, .d true, .row [(.int .i64 v20000_2.1), (.int .i64 v20000_2.2)], .d true, .d true, .call ⟨true, []⟩ (.int .i64 v20000_3) [], .d true, .d false, .d true, .d false, .d true] [⟨(nT cL10)⟩, ⟨cL5⟩, ⟨cL6⟩, ⟨cL5⟩, ⟨cL6⟩, ⟨(ok_wheel_order k v20000_2.1 v20000_2.2 v20000_1.1 v20000_1.2 _ eL9)⟩, ⟨cL6⟩, ⟨cL6⟩, ⟨(cells_map (e := e_i64_i64) eL8 2 0 2 (by decide))⟩, ⟨cL6⟩, ⟨cL7⟩, ⟨(len_map e_i64_i64 x2)⟩, ⟨cL6⟩, ⟨cL6⟩, ⟨cL6⟩, ⟨cL6⟩, ⟨cL6⟩, ⟨cL5⟩, ⟨cL5⟩, ⟨cL5⟩, ⟨(nF cL4)⟩, ⟨(nF cL4)⟩, ⟨(nF cL4)⟩, ⟨(nF cL4)⟩, ⟨(rfl : false = false)⟩, ⟨(rfl : false = false)⟩, ⟨(rfl : false = false)⟩, ⟨(rfl : false = false)⟩, ⟨(rfl : false = false)⟩, ⟨(rfl : false = false)⟩, ⟨(look_none .i64 (fun y => AV.agg (e_unit y)) cL3)⟩, ⟨(cells_map (e := e_i64_i64) eL2 2 0 2 (by decide))⟩, ⟨cL1⟩, ⟨(len_map e_i64_i64 x2)⟩, ⟨cL0⟩] (by kernel_rfl) (fun s h => by cases h)
                · rw [if_neg cL7] at h
                  replace cL7 := eqf cL7
                  cases h
              · rw [if_neg cL6] at h
                replace cL6 := eqf cL6
                exact LT.next mixed (hs := ⟨[(1, []), (3, []), (24, []), (25, []), (26, [])], [⟨.tmp 1, [], none⟩, ⟨.tmp 3, [], none⟩], false, [], []⟩) (es := none) [.d true, .n x2.length, .row [(.int .i64 v20000_1.1), (.int .i64 v20000_1.2)], .opt none, .d false, .d false, .d false, .d false, .d false, .d false, .d false, .d false, .d false, .d false, .d false, .d false, .d false, .d false, .d false, .d false, .d false, .d false, .d false, .d false, .d false, .d false, .d false, .d false, .d false, .d false, .ents (encM .i64 (fun y => AV.agg (e_unit y)) (mPut v20001_2 v20000_1.1 ())) (mPut v20001_2 v20000_1.1 ()).length] [⟨(put_enc .i64 (fun y => AV.agg (e_unit y)) v20001_2 v20000_1.1 ())⟩, ⟨(rfl : false = false)⟩, ⟨cL5⟩, ⟨cL6⟩, ⟨cL5⟩, ⟨cL6⟩, ⟨cL6⟩, ⟨cL6⟩, ⟨cL6⟩, ⟨cL6⟩, ⟨cL6⟩, ⟨cL6⟩, ⟨cL6⟩, ⟨cL6⟩, ⟨cL5⟩, ⟨cL5⟩, ⟨cL5⟩, ⟨(nF cL4)⟩, ⟨(nF cL4)⟩, ⟨(nF cL4)⟩, ⟨(nF cL4)⟩, ⟨(rfl : false = false)⟩, ⟨(rfl : false = false)⟩, ⟨(rfl : false = false)⟩, ⟨(rfl : false = false)⟩, ⟨(rfl : false = false)⟩, ⟨(rfl : false = false)⟩, ⟨(look_none .i64 (fun y => AV.agg (e_unit y)) cL3)⟩, ⟨(cells_map (e := e_i64_i64) eL2 2 0 2 (by decide))⟩, ⟨cL1⟩, ⟨(len_map e_i64_i64 x2)⟩, ⟨cL0⟩] (by kernel_rfl) (ok_wheel_Right_l0 x1 x2 y k (iadd .i64 v20001_1 1) (mPut v20001_2 v20000_1.1 ()) h)
          · rw [if_neg cL4] at h
            replace cL4 := eqf cL4
            obtain rfl := Option.some.inj h
            show LT _ _ _ _ (.fin (.bool false) [])
            exact LT.done mixed (hs := ⟨[], [], false, [], []⟩) (es := none) [.d true, .n x2.length, .row [(.int .i64 v20000_1.1), (.int .i64 v20000_1.2)], .opt none, .d false, .d false, .d false, .d false, .d false, .d false, .d true, .d true, .d true, .d true, .d true, .d true, .d true, .d true, .d true, .d true] [⟨(rfl : true = true)⟩, ⟨(rfl : true = true)⟩, ⟨(rfl : true = true)⟩, ⟨(rfl : true = true)⟩, ⟨(rfl : true = true)⟩, ⟨(rfl : true = true)⟩, ⟨(nT cL4)⟩, ⟨(nT cL4)⟩, ⟨(nT cL4)⟩, ⟨(nT cL4)⟩, ⟨(rfl : false = false)⟩, ⟨(rfl : false = false)⟩, ⟨(rfl : false = false)⟩, ⟨(rfl : false = false)⟩, ⟨(rfl : false = false)⟩, ⟨(rfl : false = false)⟩, ⟨(look_none .i64 (fun y => AV.agg (e_unit y)) cL3)⟩, ⟨(cells_map (e := e_i64_i64) eL2 2 0 2 (by decide))⟩, ⟨cL1⟩, ⟨(len_map e_i64_i64 x2)⟩, ⟨cL0⟩] (by kernel_rfl) (fun s h => by cases h)
      · rw [if_neg cL1] at h
        replace cL1 := eqf cL1
        cases h
    · rw [if_neg cL0] at h
      replace cL0 := eqf cL0
      obtain rfl := Option.some.inj h
      show LT _ _ _ _ (.st (.exit 0) (E20_0_0))
      exact LT.done mixed (hs := ⟨[], [], false, [], []⟩) (es := (some ⟨[], [], false, [], []⟩)) [.d false] [⟨cL0⟩] (by kernel_rfl) (fun s h => by cases h)
theorem ok_wheel_Right (k : Nat) (x1 : Int) (x2 : List (Int × Int)) (r : Bool) (h : wheel_Right k x1 x2 = some r) : Tri Try.prog 20 [(.agg [(.int .i64 x1), (.sl 2 (List.map e_i64_i64 x2))])] [] (.bool r) [] := by
    unfold wheel_Right at h
    by_cases c0 : ltI x1 0 = true
    · rw [if_pos c0] at h
      obtain rfl := Option.some.inj h
      exact Tri.of (x := X20) mixed facts20 [.d true, .d true, .d true, .d true, .d true, .d true, .d true, .d true, .d true, .d true] [⟨(rfl : true = true)⟩, ⟨(rfl : true = true)⟩, ⟨(rfl : true = true)⟩, ⟨(rfl : true = true)⟩, ⟨(rfl : true = true)⟩, ⟨(rfl : true = true)⟩, ⟨c0⟩, ⟨c0⟩, ⟨c0⟩, ⟨c0⟩] (by kernel_rfl)
    · rw [if_neg c0] at h
      replace c0 := eqf c0
      by_cases c1 : ltI 1099511627776 x1 = true
      · rw [if_pos c1] at h
        obtain rfl := Option.some.inj h
        exact Tri.of (x := X20) mixed facts20 [.d false, .d false, .d false, .d false, .d true, .d true, .d true, .d true, .d true, .d true] [⟨(rfl : true = true)⟩, ⟨c1⟩, ⟨c1⟩, ⟨c1⟩, ⟨c1⟩, ⟨c1⟩, ⟨c0⟩, ⟨c0⟩, ⟨c0⟩, ⟨c0⟩] (by kernel_rfl)
      · rw [if_neg c1] at h
        replace c1 := eqf c1
        by_cases c2 : ltI 1000 (nI x2.length) = true
        · rw [if_pos c2] at h
          obtain rfl := Option.some.inj h
          exact Tri.of (x := X20) mixed facts20 [.d false, .d false, .d false, .d false, .d false, .d false, .d false, .n x2.length, .d false, .d false, .d true] [⟨c2⟩, ⟨c1⟩, ⟨c1⟩, ⟨(len_map e_i64_i64 x2)⟩, ⟨c1⟩, ⟨c1⟩, ⟨c1⟩, ⟨c0⟩, ⟨c0⟩, ⟨c0⟩, ⟨c0⟩] (by kernel_rfl)
        · rw [if_neg c2] at h
          replace c2 := eqf c2
          obtain ⟨x3, e3, h⟩ := Option.bind_eq_some_iff.1 h
          cases x3 with
          | inl x4 =>
            simp only [Sum.elim_inl] at h
            obtain rfl := Option.some.inj h
            exact Tri.of (x := X20) mixed facts20 [.d false, .d false, .d false, .d false, .d false, .d false, .d false, .n x2.length, .d false, .d false, .d false, .n x2.length, .norm 2 ⟨[(1, []), (3, []), (24, []), (25, []), (26, [])], [⟨.tmp 1, [], none⟩, ⟨.tmp 3, [], none⟩], false, [], []⟩, .out (.st .normal (E20_0_0))] [⟨(LT.block (ok_wheel_Right_l0 x1 x2 _ k 0 [] e3))⟩, ⟨(len_map e_i64_i64 x2)⟩, ⟨c2⟩, ⟨c1⟩, ⟨c1⟩, ⟨(len_map e_i64_i64 x2)⟩, ⟨c1⟩, ⟨c1⟩, ⟨c1⟩, ⟨c0⟩, ⟨c0⟩, ⟨c0⟩, ⟨c0⟩] (by kernel_rfl)
          | inr x4 =>
            simp only [Sum.elim_inr] at h
            obtain rfl := Option.some.inj h
            exact Tri.of (x := X20) mixed facts20 [.d false, .d false, .d false, .d false, .d false, .d false, .d false, .n x2.length, .d false, .d false, .d false, .n x2.length, .norm 2 ⟨[(1, []), (3, []), (24, []), (25, []), (26, [])], [⟨.tmp 1, [], none⟩, ⟨.tmp 3, [], none⟩], false, [], []⟩, .out (.fin (.bool x4) [])] [⟨(LT.blockFin (id := 0) (ok_wheel_Right_l0 x1 x2 _ k 0 [] e3))⟩, ⟨(len_map e_i64_i64 x2)⟩, ⟨c2⟩, ⟨c1⟩, ⟨c1⟩, ⟨(len_map e_i64_i64 x2)⟩, ⟨c1⟩, ⟨c1⟩, ⟨c1⟩, ⟨c0⟩, ⟨c0⟩, ⟨c0⟩, ⟨c0⟩] (by kernel_rfl)
end Go.Ws
