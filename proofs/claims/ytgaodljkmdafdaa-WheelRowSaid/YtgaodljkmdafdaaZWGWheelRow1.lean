/-
  Walks, merged.
  Conditions: none.
-/
import Derived.Test.YtgaodljkmdafdaaZPre
import Derived.Test.YtgaodljkmdafdaaZPure
import Derived.Test.YtgaodljkmdafdaaZWGWheelRow0
set_option linter.unusedVariables false
set_option linter.unusedSimpArgs false
namespace Go.Ws
open Go.Proofs
set_option linter.unusedSimpArgs false
set_option linter.unusedVariables false
set_option maxRecDepth 1000000
set_option maxHeartbeats 4000000
noncomputable def X4 : Ctx := ⟨Try.f4, [], true⟩
noncomputable def L4_0 : Code := at_ Try.f4 [1, 1, 1, 1, 0, 1, 4, 5]
def S4_0 (x1 : List (Int × Int × Int)) (v4001_1 : Int) (v4001_2 : Int) (v4001_3 : List (Int × Int)) (v4001_4 : Int) (v4001_5 : List (Int × Int)) : St := ⟨mkT 128 [(0, (.sl 3 (List.map e_u8_i64_i64 x1))), (3, (.hp 0 0)), (4, (.hp 1 0)), (5, (.int .i64 v4001_1))], [(.row [(.int .i64 v4001_2), (.sl 2 (List.map e_i64_i64 v4001_3))]), (.row [(.int .i64 v4001_4), (.sl 2 (List.map e_i64_i64 v4001_5))])]⟩
def E4_0_0 : St := ⟨mkT 128 [], []⟩
def O4_0 (x1 : List (Int × Int × Int)) (y : (Sum (Unit) (Bool))) : GX := match y with
  | .inl y => .st (.exit 0) (E4_0_0)
  | .inr y => .fin (.bool y) []
theorem ok_law06_WheelRow_l0 (x1 : List (Int × Int × Int)) (y : (Sum (Unit) (Bool))) : ∀ (k : Nat) (v4001_1 : Int) (v4001_2 : Int) (v4001_3 : List (Int × Int)) (v4001_4 : Int) (v4001_5 : List (Int × Int)), law06_WheelRow_l0 k x1 v4001_1 v4001_2 v4001_3 v4001_4 v4001_5 = some y → LT Try.prog X4 L4_0 (S4_0 x1 v4001_1 v4001_2 v4001_3 v4001_4 v4001_5) (O4_0 x1 y)
  | 0, v4001_1, v4001_2, v4001_3, v4001_4, v4001_5, h => by cases h
  | k + 1, v4001_1, v4001_2, v4001_3, v4001_4, v4001_5, h => by
    rw [law06_WheelRow_l0] at h
    by_cases cL0 : ltI v4001_1 (nI x1.length) = true
    · rw [if_pos cL0] at h
      by_cases cL1 : ltI v4001_1 100 = true
      · rw [if_pos cL1] at h
        by_cases cL2 : inI v4001_1 x1.length = true
        · rw [if_pos cL2] at h
          obtain ⟨v4000_1, eL3, h⟩ := Option.bind_eq_some_iff.1 h
          by_cases cL4 : eqI (irem .u8 v4000_1.1 5) 2 = true
          · rw [if_pos cL4] at h
            obtain ⟨v4000_2, eL5, h⟩ := Option.bind_eq_some_iff.1 h
            obtain ⟨v4000_3, eL6, h⟩ := Option.bind_eq_some_iff.1 h
            by_cases cL7 : eqI v4000_2.2.2 v4000_3.2.2 = true
            · rw [if_pos cL7] at h
              obtain ⟨v4000_4, eL8, h⟩ := Option.bind_eq_some_iff.1 h
              obtain ⟨v4000_5, eL9, h⟩ := Option.bind_eq_some_iff.1 h
              by_cases cL10 : v4000_5 = true
              · rw [if_pos cL10] at h
                obtain ⟨v4000_6, eL11, h⟩ := Option.bind_eq_some_iff.1 h
                by_cases cL12 : v4000_6 = true
                · rw [if_pos cL12] at h
                  exact LT.next mixed (hs := ⟨[(0, []), (3, []), (4, []), (5, [])], [⟨.tmp 3, [], none⟩, ⟨.tmp 4, [], none⟩], false, [], []⟩) (es := none) [.n x1.length, .d true, .d true, .d true, .d true, .n x1.length, .row [(.int .u8 v4000_1.1), (.int .i64 v4000_1.2.1), (.int .i64 v4000_1.2.2)], .d false, .d true, .call ⟨true, []⟩ (.tup [(.agg [(.int .i64 v4000_2.1), (.sl 2 (List.map e_i64_i64 v4000_2.2.1))]), (.int .i64 v4000_2.2.2)]) [], .call ⟨true, []⟩ (.tup [(.agg [(.int .i64 v4000_3.1), (.sl 2 (List.map e_i64_i64 v4000_3.2.1))]), (.int .i64 v4000_3.2.2)]) [], .d false, .d false, .call ⟨true, []⟩ (.agg [(.int .i64 v4000_4.1), (.sl 2 (List.map e_i64_i64 v4000_4.2))]) [], .d false, .d false, .call ⟨true, []⟩ (.bool v4000_5) [], .d false, .d false, .d false, .d false, .call ⟨true, []⟩ (.bool v4000_6) [], .d false, .d false, .d false] [⟨(nF cL12)⟩, ⟨(nF cL10)⟩, ⟨(nF cL10)⟩, ⟨(ok_wheel_Right k v4000_2.1 v4000_2.2.1 _ eL11)⟩, ⟨(nF cL10)⟩, ⟨(nF cL10)⟩, ⟨(nF cL7)⟩, ⟨(nF cL7)⟩, ⟨(ok_ref06_Same k v4000_4.1 v4000_4.2 v4000_3.1 v4000_3.2.1 _ eL9)⟩, ⟨(nF cL7)⟩, ⟨(nF cL7)⟩, ⟨(ok_law06_Ours k v4000_2.1 v4000_2.2.1 _ eL8)⟩, ⟨(nF cL7)⟩, ⟨(nF cL7)⟩, ⟨(ok_ref06_Stop k v4001_4 v4001_5 v4000_1.2.1 _ eL6)⟩, ⟨(ok_wheel_Stop k v4001_2 v4001_3 v4000_1.2.1 _ eL5)⟩, ⟨cL4⟩, ⟨(rfl : eqI 5 0 = false)⟩, ⟨(cells_map (e := e_u8_i64_i64) eL3 3 0 3 (by decide))⟩, ⟨cL2⟩, ⟨(len_map e_u8_i64_i64 x1)⟩, ⟨cL1⟩, ⟨cL0⟩, ⟨cL0⟩, ⟨cL0⟩, ⟨(len_map e_u8_i64_i64 x1)⟩] (by kernel_rfl) (ok_law06_WheelRow_l0 x1 y k (iadd .i64 v4001_1 1) v4000_2.1 v4000_2.2.1 v4000_3.1 v4000_3.2.1 h)
                · rw [if_neg cL12] at h
                  replace cL12 := eqf cL12
                  obtain rfl := Option.some.inj h
                  show LT _ _ _ _ (.fin (.bool false) [])
                  exact LT.done mixed (hs := ⟨[], [], false, [], []⟩) (es := none) [.n x1.length, .d true, .d true, .d true, .d true, .n x1.length, .row [(.int .u8 v4000_1.1), (.int .i64 v4000_1.2.1), (.int .i64 v4000_1.2.2)], .d false, .d true, .call ⟨true, []⟩ (.tup [(.agg [(.int .i64 v4000_2.1), (.sl 2 (List.map e_i64_i64 v4000_2.2.1))]), (.int .i64 v4000_2.2.2)]) [], .call ⟨true, []⟩ (.tup [(.agg [(.int .i64 v4000_3.1), (.sl 2 (List.map e_i64_i64 v4000_3.2.1))]), (.int .i64 v4000_3.2.2)]) [], .d false, .d false, .call ⟨true, []⟩ (.agg [(.int .i64 v4000_4.1), (.sl 2 (List.map e_i64_i64 v4000_4.2))]) [], .d false, .d false, .call ⟨true, []⟩ (.bool v4000_5) [], .d false, .d false, .d false, .d false, .call ⟨true, []⟩ (.bool v4000_6) [], .d false, .d false, .d true] [⟨(nT cL12)⟩, ⟨(nF cL10)⟩, ⟨(nF cL10)⟩, ⟨(ok_wheel_Right k v4000_2.1 v4000_2.2.1 _ eL11)⟩, ⟨(nF cL10)⟩, ⟨(nF cL10)⟩, ⟨(nF cL7)⟩, ⟨(nF cL7)⟩, ⟨(ok_ref06_Same k v4000_4.1 v4000_4.2 v4000_3.1 v4000_3.2.1 _ eL9)⟩, ⟨(nF cL7)⟩, ⟨(nF cL7)⟩, ⟨(ok_law06_Ours k v4000_2.1 v4000_2.2.1 _ eL8)⟩, ⟨(nF cL7)⟩, ⟨(nF cL7)⟩, ⟨(ok_ref06_Stop k v4001_4 v4001_5 v4000_1.2.1 _ eL6)⟩, ⟨(ok_wheel_Stop k v4001_2 v4001_3 v4000_1.2.1 _ eL5)⟩, ⟨cL4⟩, ⟨(rfl : eqI 5 0 = false)⟩, ⟨(cells_map (e := e_u8_i64_i64) eL3 3 0 3 (by decide))⟩, ⟨cL2⟩, ⟨(len_map e_u8_i64_i64 x1)⟩, ⟨cL1⟩, ⟨cL0⟩, ⟨cL0⟩, ⟨cL0⟩, ⟨(len_map e_u8_i64_i64 x1)⟩] (by kernel_rfl) (fun s h => by cases h)
              · rw [if_neg cL10] at h
                replace cL10 := eqf cL10
                obtain rfl := Option.some.inj h
                show LT _ _ _ _ (.fin (.bool false) [])
                exact LT.done mixed (hs := ⟨[], [], false, [], []⟩) (es := none) [.n x1.length, .d true, .d true, .d true, .d true, .n x1.length, .row [(.int .u8 v4000_1.1), (.int .i64 v4000_1.2.1), (.int .i64 v4000_1.2.2)], .d false, .d true, .call ⟨true, []⟩ (.tup [(.agg [(.int .i64 v4000_2.1), (.sl 2 (List.map e_i64_i64 v4000_2.2.1))]), (.int .i64 v4000_2.2.2)]) [], .call ⟨true, []⟩ (.tup [(.agg [(.int .i64 v4000_3.1), (.sl 2 (List.map e_i64_i64 v4000_3.2.1))]), (.int .i64 v4000_3.2.2)]) [], .d false, .d false, .call ⟨true, []⟩ (.agg [(.int .i64 v4000_4.1), (.sl 2 (List.map e_i64_i64 v4000_4.2))]) [], .d false, .d false, .call ⟨true, []⟩ (.bool v4000_5) [], .d false, .d false, .d true, .d true, .d true, .d true, .d true] [⟨(rfl : true = true)⟩, ⟨(nT cL10)⟩, ⟨(nT cL10)⟩, ⟨(nT cL10)⟩, ⟨(nT cL10)⟩, ⟨(nF cL7)⟩, ⟨(nF cL7)⟩, ⟨(ok_ref06_Same k v4000_4.1 v4000_4.2 v4000_3.1 v4000_3.2.1 _ eL9)⟩, ⟨(nF cL7)⟩, ⟨(nF cL7)⟩, ⟨(ok_law06_Ours k v4000_2.1 v4000_2.2.1 _ eL8)⟩, ⟨(nF cL7)⟩, ⟨(nF cL7)⟩, ⟨(ok_ref06_Stop k v4001_4 v4001_5 v4000_1.2.1 _ eL6)⟩, ⟨(ok_wheel_Stop k v4001_2 v4001_3 v4000_1.2.1 _ eL5)⟩, ⟨cL4⟩, ⟨(rfl : eqI 5 0 = false)⟩, ⟨(cells_map (e := e_u8_i64_i64) eL3 3 0 3 (by decide))⟩, ⟨cL2⟩, ⟨(len_map e_u8_i64_i64 x1)⟩, ⟨cL1⟩, ⟨cL0⟩, ⟨cL0⟩, ⟨cL0⟩, ⟨(len_map e_u8_i64_i64 x1)⟩] (by kernel_rfl) (fun s h => by cases h)
            · rw [if_neg cL7] at h
              replace cL7 := eqf cL7
              obtain rfl := Option.some.inj h
              show LT _ _ _ _ (.fin (.bool false) [])
              exact LT.done mixed (hs := ⟨[], [], false, [], []⟩) (es := none) [.n x1.length, .d true, .d true, .d true, .d true, .n x1.length, .row [(.int .u8 v4000_1.1), (.int .i64 v4000_1.2.1), (.int .i64 v4000_1.2.2)], .d false, .d true, .call ⟨true, []⟩ (.tup [(.agg [(.int .i64 v4000_2.1), (.sl 2 (List.map e_i64_i64 v4000_2.2.1))]), (.int .i64 v4000_2.2.2)]) [], .call ⟨true, []⟩ (.tup [(.agg [(.int .i64 v4000_3.1), (.sl 2 (List.map e_i64_i64 v4000_3.2.1))]), (.int .i64 v4000_3.2.2)]) [], .d true, .d true, .d true, .d true, .d true, .d true, .d true, .d true, .d true, .d true, .d true] [⟨(rfl : true = true)⟩, ⟨(rfl : true = true)⟩, ⟨(rfl : true = true)⟩, ⟨(rfl : true = true)⟩, ⟨(rfl : true = true)⟩, ⟨(nT cL7)⟩, ⟨(nT cL7)⟩, ⟨(nT cL7)⟩, ⟨(nT cL7)⟩, ⟨(nT cL7)⟩, ⟨(nT cL7)⟩, ⟨(ok_ref06_Stop k v4001_4 v4001_5 v4000_1.2.1 _ eL6)⟩, ⟨(ok_wheel_Stop k v4001_2 v4001_3 v4000_1.2.1 _ eL5)⟩, ⟨cL4⟩, ⟨(rfl : eqI 5 0 = false)⟩, ⟨(cells_map (e := e_u8_i64_i64) eL3 3 0 3 (by decide))⟩, ⟨cL2⟩, ⟨(len_map e_u8_i64_i64 x1)⟩, ⟨cL1⟩, ⟨cL0⟩, ⟨cL0⟩, ⟨cL0⟩, ⟨(len_map e_u8_i64_i64 x1)⟩] (by kernel_rfl) (fun s h => by cases h)
          · rw [if_neg cL4] at h
            replace cL4 := eqf cL4
            by_cases cL5 : eqI (irem .u8 v4000_1.1 5) 3 = true
            · rw [if_pos cL5] at h
              obtain ⟨v4000_2, eL6, h⟩ := Option.bind_eq_some_iff.1 h
              obtain ⟨v4000_3, eL7, h⟩ := Option.bind_eq_some_iff.1 h
              by_cases cL8 : eqI v4000_2.2.2.2 v4000_3.2.2.2 = true
              · rw [if_pos cL8] at h
                obtain ⟨v4000_4, eL9, h⟩ := Option.bind_eq_some_iff.1 h
                by_cases cL10 : v4000_4 = true
                · rw [if_pos cL10] at h
                  obtain ⟨v4000_5, eL11, h⟩ := Option.bind_eq_some_iff.1 h
                  obtain ⟨v4000_6, eL12, h⟩ := Option.bind_eq_some_iff.1 h
                  by_cases cL13 : v4000_6 = true
                  · rw [if_pos cL13] at h
                    obtain ⟨v4000_7, eL14, h⟩ := Option.bind_eq_some_iff.1 h
                    by_cases cL15 : v4000_7 = true
                    · rw [if_pos cL15] at h
                      exact LT.next mixed (hs := ⟨[(0, []), (3, []), (4, []), (5, [])], [⟨.tmp 3, [], none⟩, ⟨.tmp 4, [], none⟩], false, [], []⟩) (es := none) [.n x1.length, .d true, .d true, .d true, .d true, .n x1.length, .row [(.int .u8 v4000_1.1), (.int .i64 v4000_1.2.1), (.int .i64 v4000_1.2.2)], .d false, .d false, .d true, .d true, .call ⟨true, []⟩ (.tup [(.agg [(.int .i64 v4000_2.1), (.sl 2 (List.map e_i64_i64 v4000_2.2.1))]), (.sl 1 (List.map e_i64 v4000_2.2.2.1)), (.int .i64 v4000_2.2.2.2)]) [], .call ⟨true, []⟩ (.tup [(.agg [(.int .i64 v4000_3.1), (.sl 2 (List.map e_i64_i64 v4000_3.2.1))]), (.sl 1 (List.map e_i64 v4000_3.2.2.1)), (.int .i64 v4000_3.2.2.2)]) [], .d true, .d true, .d true, .call ⟨true, []⟩ (.bool v4000_4) [], .d true, .d false, .d false, .call ⟨true, []⟩ (.agg [(.int .i64 v4000_5.1), (.sl 2 (List.map e_i64_i64 v4000_5.2))]) [], .d false, .d false, .call ⟨true, []⟩ (.bool v4000_6) [], .d false, .d false, .d false, .d false, .call ⟨true, []⟩ (.bool v4000_7) [], .d false, .d false, .d false] [⟨(nF cL15)⟩, ⟨(nF cL13)⟩, ⟨(nF cL13)⟩, ⟨(ok_wheel_Right k v4000_2.1 v4000_2.2.1 _ eL14)⟩, ⟨(nF cL13)⟩, ⟨(nF cL13)⟩, ⟨(nF cL10)⟩, ⟨(nF cL10)⟩, ⟨(ok_ref06_Same k v4000_5.1 v4000_5.2 v4000_3.1 v4000_3.2.1 _ eL12)⟩, ⟨(nF cL10)⟩, ⟨(nF cL10)⟩, ⟨(ok_law06_Ours k v4000_2.1 v4000_2.2.1 _ eL11)⟩, ⟨(nF cL10)⟩, ⟨(nF cL10)⟩, ⟨cL8⟩, ⟨(ok_law06_same k v4000_2.2.2.1 v4000_3.2.2.1 _ eL9)⟩, ⟨cL8⟩, ⟨cL8⟩, ⟨cL8⟩, ⟨(ok_ref06_Tick k v4001_4 v4001_5 v4000_1.2.2 _ eL7)⟩, ⟨(ok_wheel_Tick k v4001_2 v4001_3 v4000_1.2.2 _ eL6)⟩, ⟨cL5⟩, ⟨cL5⟩, ⟨cL4⟩, ⟨(rfl : eqI 5 0 = false)⟩, ⟨(cells_map (e := e_u8_i64_i64) eL3 3 0 3 (by decide))⟩, ⟨cL2⟩, ⟨(len_map e_u8_i64_i64 x1)⟩, ⟨cL1⟩, ⟨cL0⟩, ⟨cL0⟩, ⟨cL0⟩, ⟨(len_map e_u8_i64_i64 x1)⟩] (by kernel_rfl) (ok_law06_WheelRow_l0 x1 y k (iadd .i64 v4001_1 1) v4000_2.1 v4000_2.2.1 v4000_3.1 v4000_3.2.1 h)
                    · rw [if_neg cL15] at h
                      replace cL15 := eqf cL15
                      obtain rfl := Option.some.inj h
                      show LT _ _ _ _ (.fin (.bool false) [])
                      exact LT.done mixed (hs := ⟨[], [], false, [], []⟩) (es := none) [.n x1.length, .d true, .d true, .d true, .d true, .n x1.length, .row [(.int .u8 v4000_1.1), (.int .i64 v4000_1.2.1), (.int .i64 v4000_1.2.2)], .d false, .d false, .d true, .d true, .call ⟨true, []⟩ (.tup [(.agg [(.int .i64 v4000_2.1), (.sl 2 (List.map e_i64_i64 v4000_2.2.1))]), (.sl 1 (List.map e_i64 v4000_2.2.2.1)), (.int .i64 v4000_2.2.2.2)]) [], .call ⟨true, []⟩ (.tup [(.agg [(.int .i64 v4000_3.1), (.sl 2 (List.map e_i64_i64 v4000_3.2.1))]), (.sl 1 (List.map e_i64 v4000_3.2.2.1)), (.int .i64 v4000_3.2.2.2)]) [], .d true, .d true, .d true, .call ⟨true, []⟩ (.bool v4000_4) [], .d true, .d false, .d false, .call ⟨true, []⟩ (.agg [(.int .i64 v4000_5.1), (.sl 2 (List.map e_i64_i64 v4000_5.2))]) [], .d false, .d false, .call ⟨true, []⟩ (.bool v4000_6) [], .d false, .d false, .d false, .d false, .call ⟨true, []⟩ (.bool v4000_7) [], .d false, .d false, .d true] [⟨(nT cL15)⟩, ⟨(nF cL13)⟩, ⟨(nF cL13)⟩, ⟨(ok_wheel_Right k v4000_2.1 v4000_2.2.1 _ eL14)⟩, ⟨(nF cL13)⟩, ⟨(nF cL13)⟩, ⟨(nF cL10)⟩, ⟨(nF cL10)⟩, ⟨(ok_ref06_Same k v4000_5.1 v4000_5.2 v4000_3.1 v4000_3.2.1 _ eL12)⟩, ⟨(nF cL10)⟩, ⟨(nF cL10)⟩, ⟨(ok_law06_Ours k v4000_2.1 v4000_2.2.1 _ eL11)⟩, ⟨(nF cL10)⟩, ⟨(nF cL10)⟩, ⟨cL8⟩, ⟨(ok_law06_same k v4000_2.2.2.1 v4000_3.2.2.1 _ eL9)⟩, ⟨cL8⟩, ⟨cL8⟩, ⟨cL8⟩, ⟨(ok_ref06_Tick k v4001_4 v4001_5 v4000_1.2.2 _ eL7)⟩, ⟨(ok_wheel_Tick k v4001_2 v4001_3 v4000_1.2.2 _ eL6)⟩, ⟨cL5⟩, ⟨cL5⟩, ⟨cL4⟩, ⟨(rfl : eqI 5 0 = false)⟩, ⟨(cells_map (e := e_u8_i64_i64) eL3 3 0 3 (by decide))⟩, ⟨cL2⟩, ⟨(len_map e_u8_i64_i64 x1)⟩, ⟨cL1⟩, ⟨cL0⟩, ⟨cL0⟩, ⟨cL0⟩, ⟨(len_map e_u8_i64_i64 x1)⟩] (by kernel_rfl) (fun s h => by cases h)
                  · rw [if_neg cL13] at h
                    replace cL13 := eqf cL13
                    obtain rfl := Option.some.inj h
                    show LT _ _ _ _ (.fin (.bool false) [])
                    exact LT.done mixed (hs := ⟨[], [], false, [], []⟩) (es := none) [.n x1.length, .d true, .d true, .d true, .d true, .n x1.length, .row [(.int .u8 v4000_1.1), (.int .i64 v4000_1.2.1), (.int .i64 v4000_1.2.2)], .d false, .d false, .d true, .d true, .call ⟨true, []⟩ (.tup [(.agg [(.int .i64 v4000_2.1), (.sl 2 (List.map e_i64_i64 v4000_2.2.1))]), (.sl 1 (List.map e_i64 v4000_2.2.2.1)), (.int .i64 v4000_2.2.2.2)]) [], .call ⟨true, []⟩ (.tup [(.agg [(.int .i64 v4000_3.1), (.sl 2 (List.map e_i64_i64 v4000_3.2.1))]), (.sl 1 (List.map e_i64 v4000_3.2.2.1)), (.int .i64 v4000_3.2.2.2)]) [], .d true, .d true, .d true, .call ⟨true, []⟩ (.bool v4000_4) [], .d true, .d false, .d false, .call ⟨true, []⟩ (.agg [(.int .i64 v4000_5.1), (.sl 2 (List.map e_i64_i64 v4000_5.2))]) [], .d false, .d false, .call ⟨true, []⟩ (.bool v4000_6) [], .d false, .d false, .d true, .d true, .d true, .d true, .d true] [⟨(rfl : true = true)⟩, ⟨(nT cL13)⟩, ⟨(nT cL13)⟩, ⟨(nT cL13)⟩, ⟨(nT cL13)⟩, ⟨(nF cL10)⟩, ⟨(nF cL10)⟩, ⟨(ok_ref06_Same k v4000_5.1 v4000_5.2 v4000_3.1 v4000_3.2.1 _ eL12)⟩, ⟨(nF cL10)⟩, ⟨(nF cL10)⟩, ⟨(ok_law06_Ours k v4000_2.1 v4000_2.2.1 _ eL11)⟩, ⟨(nF cL10)⟩, ⟨(nF cL10)⟩, ⟨cL8⟩, ⟨(ok_law06_same k v4000_2.2.2.1 v4000_3.2.2.1 _ eL9)⟩, ⟨cL8⟩, ⟨cL8⟩, ⟨cL8⟩, ⟨(ok_ref06_Tick k v4001_4 v4001_5 v4000_1.2.2 _ eL7)⟩, ⟨(ok_wheel_Tick k v4001_2 v4001_3 v4000_1.2.2 _ eL6)⟩, ⟨cL5⟩, ⟨cL5⟩, ⟨cL4⟩, ⟨(rfl : eqI 5 0 = false)⟩, ⟨(cells_map (e := e_u8_i64_i64) eL3 3 0 3 (by decide))⟩, ⟨cL2⟩, ⟨(len_map e_u8_i64_i64 x1)⟩, ⟨cL1⟩, ⟨cL0⟩, ⟨cL0⟩, ⟨cL0⟩, ⟨(len_map e_u8_i64_i64 x1)⟩] (by kernel_rfl) (fun s h => by cases h)
                · rw [if_neg cL10] at h
                  replace cL10 := eqf cL10
                  obtain rfl := Option.some.inj h
                  show LT _ _ _ _ (.fin (.bool false) [])
                  exact LT.done mixed (hs := ⟨[], [], false, [], []⟩) (es := none) [.n x1.length, .d true, .d true, .d true, .d true, .n x1.length, .row [(.int .u8 v4000_1.1), (.int .i64 v4000_1.2.1), (.int .i64 v4000_1.2.2)], .d false, .d false, .d true, .d true, .call ⟨true, []⟩ (.tup [(.agg [(.int .i64 v4000_2.1), (.sl 2 (List.map e_i64_i64 v4000_2.2.1))]), (.sl 1 (List.map e_i64 v4000_2.2.2.1)), (.int .i64 v4000_2.2.2.2)]) [], .call ⟨true, []⟩ (.tup [(.agg [(.int .i64 v4000_3.1), (.sl 2 (List.map e_i64_i64 v4000_3.2.1))]), (.sl 1 (List.map e_i64 v4000_3.2.2.1)), (.int .i64 v4000_3.2.2.2)]) [], .d true, .d true, .d true, .call ⟨true, []⟩ (.bool v4000_4) [], .d true, .d true, .d true, .d true, .d true, .d true, .d true, .d true, .d true, .d true, .d true, .d true] [⟨(rfl : true = true)⟩, ⟨(rfl : true = true)⟩, ⟨(rfl : true = true)⟩, ⟨(rfl : true = true)⟩, ⟨(rfl : true = true)⟩, ⟨(nT cL10)⟩, ⟨(nT cL10)⟩, ⟨(nT cL10)⟩, ⟨(nT cL10)⟩, ⟨(nT cL10)⟩, ⟨(nT cL10)⟩, ⟨cL8⟩, ⟨(ok_law06_same k v4000_2.2.2.1 v4000_3.2.2.1 _ eL9)⟩, ⟨cL8⟩, ⟨cL8⟩, ⟨cL8⟩, ⟨(ok_ref06_Tick k v4001_4 v4001_5 v4000_1.2.2 _ eL7)⟩, ⟨(ok_wheel_Tick k v4001_2 v4001_3 v4000_1.2.2 _ eL6)⟩, ⟨cL5⟩, ⟨cL5⟩, ⟨cL4⟩, ⟨(rfl : eqI 5 0 = false)⟩, ⟨(cells_map (e := e_u8_i64_i64) eL3 3 0 3 (by decide))⟩, ⟨cL2⟩, ⟨(len_map e_u8_i64_i64 x1)⟩, ⟨cL1⟩, ⟨cL0⟩, ⟨cL0⟩, ⟨cL0⟩, ⟨(len_map e_u8_i64_i64 x1)⟩] (by kernel_rfl) (fun s h => by cases h)
              · rw [if_neg cL8] at h
                replace cL8 := eqf cL8
                obtain rfl := Option.some.inj h
                show LT _ _ _ _ (.fin (.bool false) [])
                exact LT.done mixed (hs := ⟨[], [], false, [], []⟩) (es := none) [.n x1.length, .d true, .d true, .d true, .d true, .n x1.length, .row [(.int .u8 v4000_1.1), (.int .i64 v4000_1.2.1), (.int .i64 v4000_1.2.2)], .d false, .d false, .d true, .d true, .call ⟨true, []⟩ (.tup [(.agg [(.int .i64 v4000_2.1), (.sl 2 (List.map e_i64_i64 v4000_2.2.1))]), (.sl 1 (List.map e_i64 v4000_2.2.2.1)), (.int .i64 v4000_2.2.2.2)]) [], .call ⟨true, []⟩ (.tup [(.agg [(.int .i64 v4000_3.1), (.sl 2 (List.map e_i64_i64 v4000_3.2.1))]), (.sl 1 (List.map e_i64 v4000_3.2.2.1)), (.int .i64 v4000_3.2.2.2)]) [], .d false, .d false, .d false, .d false, .d true, .d true, .d true, .d true, .d true, .d true, .d true, .d true, .d true, .d true, .d true] [⟨(rfl : true = true)⟩, ⟨(rfl : true = true)⟩, ⟨(rfl : true = true)⟩, ⟨(rfl : true = true)⟩, ⟨(rfl : true = true)⟩, ⟨(nT rfl)⟩, ⟨(nT rfl)⟩, ⟨(nT rfl)⟩, ⟨(nT rfl)⟩, ⟨(nT rfl)⟩, ⟨(nT rfl)⟩, ⟨cL8⟩, ⟨cL8⟩, ⟨cL8⟩, ⟨cL8⟩, ⟨(ok_ref06_Tick k v4001_4 v4001_5 v4000_1.2.2 _ eL7)⟩, ⟨(ok_wheel_Tick k v4001_2 v4001_3 v4000_1.2.2 _ eL6)⟩, ⟨cL5⟩, ⟨cL5⟩, ⟨cL4⟩, ⟨(rfl : eqI 5 0 = false)⟩, ⟨(cells_map (e := e_u8_i64_i64) eL3 3 0 3 (by decide))⟩, ⟨cL2⟩, ⟨(len_map e_u8_i64_i64 x1)⟩, ⟨cL1⟩, ⟨cL0⟩, ⟨cL0⟩, ⟨cL0⟩, ⟨(len_map e_u8_i64_i64 x1)⟩] (by kernel_rfl) (fun s h => by cases h)
            · rw [if_neg cL5] at h
              replace cL5 := eqf cL5
              by_cases cL6 : eqI (irem .u8 v4000_1.1 5) 4 = true
              · rw [if_pos cL6] at h
                obtain ⟨v4000_2, eL7, h⟩ := Option.bind_eq_some_iff.1 h
                obtain ⟨v4000_3, eL8, h⟩ := Option.bind_eq_some_iff.1 h
                by_cases cL9 : eqI v4000_2.2.2.2 v4000_3.2.2.2 = true
                · rw [if_pos cL9] at h
                  obtain ⟨v4000_4, eL10, h⟩ := Option.bind_eq_some_iff.1 h
                  by_cases cL11 : v4000_4 = true
                  · rw [if_pos cL11] at h
                    obtain ⟨v4000_5, eL12, h⟩ := Option.bind_eq_some_iff.1 h
                    obtain ⟨v4000_6, eL13, h⟩ := Option.bind_eq_some_iff.1 h
                    by_cases cL14 : v4000_6 = true
                    · rw [if_pos cL14] at h
                      obtain ⟨v4000_7, eL15, h⟩ := Option.bind_eq_some_iff.1 h
                      by_cases cL16 : v4000_7 = true
                      · rw [if_pos cL16] at h
                        exact LT.next mixed (hs := ⟨[(0, []), (3, []), (4, []), (5, [])], [⟨.tmp 3, [], none⟩, ⟨.tmp 4, [], none⟩], false, [], []⟩) (es := none) [.n x1.length, .d true, .d true, .d true, .d true, .n x1.length, .row [(.int .u8 v4000_1.1), (.int .i64 v4000_1.2.1), (.int .i64 v4000_1.2.2)], .d false, .d false, .d false, .d true, .call ⟨true, []⟩ (.tup [(.agg [(.int .i64 v4000_2.1), (.sl 2 (List.map e_i64_i64 v4000_2.2.1))]), (.sl 1 (List.map e_i64 v4000_2.2.2.1)), (.int .i64 v4000_2.2.2.2)]) [], .call ⟨true, []⟩ (.tup [(.agg [(.int .i64 v4000_3.1), (.sl 2 (List.map e_i64_i64 v4000_3.2.1))]), (.sl 1 (List.map e_i64 v4000_3.2.2.1)), (.int .i64 v4000_3.2.2.2)]) [], .d true, .d true, .d true, .call ⟨true, []⟩ (.bool v4000_4) [], .d true, .d false, .d false, .call ⟨true, []⟩ (.agg [(.int .i64 v4000_5.1), (.sl 2 (List.map e_i64_i64 v4000_5.2))]) [], .d false, .d false, .call ⟨true, []⟩ (.bool v4000_6) [], .d false, .d false, .d false, .d false, .call ⟨true, []⟩ (.bool v4000_7) [], .d false, .d false, .d false] [⟨(nF cL16)⟩, ⟨(nF cL14)⟩, ⟨(nF cL14)⟩, ⟨(ok_wheel_Right k v4000_2.1 v4000_2.2.1 _ eL15)⟩, ⟨(nF cL14)⟩, ⟨(nF cL14)⟩, ⟨(nF cL11)⟩, ⟨(nF cL11)⟩, ⟨(ok_ref06_Same k v4000_5.1 v4000_5.2 v4000_3.1 v4000_3.2.1 _ eL13)⟩, ⟨(nF cL11)⟩, ⟨(nF cL11)⟩, ⟨(ok_law06_Ours k v4000_2.1 v4000_2.2.1 _ eL12)⟩, ⟨(nF cL11)⟩, ⟨(nF cL11)⟩, ⟨cL9⟩, ⟨(ok_law06_same k v4000_2.2.2.1 v4000_3.2.2.1 _ eL10)⟩, ⟨cL9⟩, ⟨cL9⟩, ⟨cL9⟩, ⟨(ok_ref06_Tick k v4001_4 v4001_5 v4000_1.2.2 _ eL8)⟩, ⟨(ok_wheel_Tick k v4001_2 v4001_3 v4000_1.2.2 _ eL7)⟩, ⟨cL6⟩, ⟨cL5⟩, ⟨cL4⟩, ⟨(rfl : eqI 5 0 = false)⟩, ⟨(cells_map (e := e_u8_i64_i64) eL3 3 0 3 (by decide))⟩, ⟨cL2⟩, ⟨(len_map e_u8_i64_i64 x1)⟩, ⟨cL1⟩, ⟨cL0⟩, ⟨cL0⟩, ⟨cL0⟩, ⟨(len_map e_u8_i64_i64 x1)⟩] (by kernel_rfl) (ok_law06_WheelRow_l0 x1 y k (iadd .i64 v4001_1 1) v4000_2.1 v4000_2.2.1 v4000_3.1 v4000_3.2.1 h)
                      · rw [if_neg cL16] at h
                        replace cL16 := eqf cL16
                        obtain rfl := Option.some.inj h
                        show LT _ _ _ _ (.fin (.bool false) [])
                        exact LT.done mixed (hs := ⟨[], [], false, [], []⟩) (es := none) [.n x1.length, .d true, .d true, .d true, .d true, .n x1.length, .row [(.int .u8 v4000_1.1), (.int .i64 v4000_1.2.1), (.int .i64 v4000_1.2.2)], .d false, .d false, .d false, .d true, .call ⟨true, []⟩ (.tup [(.agg [(.int .i64 v4000_2.1), (.sl 2 (List.map e_i64_i64 v4000_2.2.1))]), (.sl 1 (List.map e_i64 v4000_2.2.2.1)), (.int .i64 v4000_2.2.2.2)]) [], .call ⟨true, []⟩ (.tup [(.agg [(.int .i64 v4000_3.1), (.sl 2 (List.map e_i64_i64 v4000_3.2.1))]), (.sl 1 (List.map e_i64 v4000_3.2.2.1)), (.int .i64 v4000_3.2.2.2)]) [], .d true, .d true, .d true, .call ⟨true, []⟩ (.bool v4000_4) [], .d true, .d false, .d false, .call ⟨true, []⟩ (.agg [(.int .i64 v4000_5.1), (.sl 2 (List.map e_i64_i64 v4000_5.2))]) [], .d false, .d false, .call ⟨true, []⟩ (.bool v4000_6) [], .d false, .d false, .d false, .d false, .call ⟨true, []⟩ (.bool v4000_7) [], .d false, .d false, .d true] [⟨(nT cL16)⟩, ⟨(nF cL14)⟩, ⟨(nF cL14)⟩, ⟨(ok_wheel_Right k v4000_2.1 v4000_2.2.1 _ eL15)⟩, ⟨(nF cL14)⟩, ⟨(nF cL14)⟩, ⟨(nF cL11)⟩, ⟨(nF cL11)⟩, ⟨(ok_ref06_Same k v4000_5.1 v4000_5.2 v4000_3.1 v4000_3.2.1 _ eL13)⟩, ⟨(nF cL11)⟩, ⟨(nF cL11)⟩, ⟨(ok_law06_Ours k v4000_2.1 v4000_2.2.1 _ eL12)⟩, ⟨(nF cL11)⟩, ⟨(nF cL11)⟩, ⟨cL9⟩, ⟨(ok_law06_same k v4000_2.2.2.1 v4000_3.2.2.1 _ eL10)⟩, ⟨cL9⟩, ⟨cL9⟩, ⟨cL9⟩, ⟨(ok_ref06_Tick k v4001_4 v4001_5 v4000_1.2.2 _ eL8)⟩, ⟨(ok_wheel_Tick k v4001_2 v4001_3 v4000_1.2.2 _ eL7)⟩, ⟨cL6⟩, ⟨cL5⟩, ⟨cL4⟩, ⟨(rfl : eqI 5 0 = false)⟩, ⟨(cells_map (e := e_u8_i64_i64) eL3 3 0 3 (by decide))⟩, ⟨cL2⟩, ⟨(len_map e_u8_i64_i64 x1)⟩, ⟨cL1⟩, ⟨cL0⟩, ⟨cL0⟩, ⟨cL0⟩, ⟨(len_map e_u8_i64_i64 x1)⟩] (by kernel_rfl) (fun s h => by cases h)
                    · rw [if_neg cL14] at h
                      replace cL14 := eqf cL14
                      obtain rfl := Option.some.inj h
                      show LT _ _ _ _ (.fin (.bool false) [])
                      exact LT.done mixed (hs := ⟨[], [], false, [], []⟩) (es := none) [.n x1.length, .d true, .d true, .d true, .d true, .n x1.length, .row [(.int .u8 v4000_1.1), (.int .i64 v4000_1.2.1), (.int .i64 v4000_1.2.2)], .d false, .d false, .d false, .d true, .call ⟨true, []⟩ (.tup [(.agg [(.int .i64 v4000_2.1), (.sl 2 (List.map e_i64_i64 v4000_2.2.1))]), (.sl 1 (List.map e_i64 v4000_2.2.2.1)), (.int .i64 v4000_2.2.2.2)]) [], .call ⟨true, []⟩ (.tup [(.agg [(.int .i64 v4000_3.1), (.sl 2 (List.map e_i64_i64 v4000_3.2.1))]), (.sl 1 (List.map e_i64 v4000_3.2.2.1)), (.int .i64 v4000_3.2.2.2)]) [], .d true, .d true, .d true, .call ⟨true, []⟩ (.bool v4000_4) [], .d true, .d false, .d false, .call ⟨true, []⟩ (.agg [(.int .i64 v4000_5.1), (.sl 2 (List.map e_i64_i64 v4000_5.2))]) [], .d false, .d false, .call ⟨true, []⟩ (.bool v4000_6) [], .d false, .d false, .d true, .d true, .d true, .d true, .d true] [⟨(rfl : true = true)⟩, ⟨(nT cL14)⟩, ⟨(nT cL14)⟩, ⟨(nT cL14)⟩, ⟨(nT cL14)⟩, ⟨(nF cL11)⟩, ⟨(nF cL11)⟩, ⟨(ok_ref06_Same k v4000_5.1 v4000_5.2 v4000_3.1 v4000_3.2.1 _ eL13)⟩, ⟨(nF cL11)⟩, ⟨(nF cL11)⟩, ⟨(ok_law06_Ours k v4000_2.1 v4000_2.2.1 _ eL12)⟩, ⟨(nF cL11)⟩, ⟨(nF cL11)⟩, ⟨cL9⟩, ⟨(ok_law06_same k v4000_2.2.2.1 v4000_3.2.2.1 _ eL10)⟩, ⟨cL9⟩, ⟨cL9⟩, ⟨cL9⟩, ⟨(ok_ref06_Tick k v4001_4 v4001_5 v4000_1.2.2 _ eL8)⟩, ⟨(ok_wheel_Tick k v4001_2 v4001_3 v4000_1.2.2 _ eL7)⟩, ⟨cL6⟩, ⟨cL5⟩, ⟨cL4⟩, ⟨(rfl : eqI 5 0 = false)⟩, ⟨(cells_map (e := e_u8_i64_i64) eL3 3 0 3 (by decide))⟩, ⟨cL2⟩, ⟨(len_map e_u8_i64_i64 x1)⟩, ⟨cL1⟩, ⟨cL0⟩, ⟨cL0⟩, ⟨cL0⟩, ⟨(len_map e_u8_i64_i64 x1)⟩] (by kernel_rfl) (fun s h => by cases h)
                  · rw [if_neg cL11] at h
                    replace cL11 := eqf cL11
                    obtain rfl := Option.some.inj h
                    show LT _ _ _ _ (.fin (.bool false) [])
                    exact LT.done mixed (hs := ⟨[], [], false, [], []⟩) (es := none) [.n x1.length, .d true, .d true, .d true, .d true, .n x1.length, .row [(.int .u8 v4000_1.1), (.int .i64 v4000_1.2.1), (.int .i64 v4000_1.2.2)], .d false, .d false, .d false, .d true, .call ⟨true, []⟩ (.tup [(.agg [(.int .i64 v4000_2.1), (.sl 2 (List.map e_i64_i64 v4000_2.2.1))]), (.sl 1 (List.map e_i64 v4000_2.2.2.1)), (.int .i64 v4000_2.2.2.2)]) [], .call ⟨true, []⟩ (.tup [(.agg [(.int .i64 v4000_3.1), (.sl 2 (List.map e_i64_i64 v4000_3.2.1))]), (.sl 1 (List.map e_i64 v4000_3.2.2.1)), (.int .i64 v4000_3.2.2.2)]) [], .d true, .d true, .d true, .call ⟨true, []⟩ (.bool v4000_4) [], .d true, .d true, .d true, .d true, .d true, .d true, .d true, .d true, .d true, .d true, .d true, .d true] [⟨(rfl : true = true)⟩, ⟨(rfl : true = true)⟩, ⟨(rfl : true = true)⟩, ⟨(rfl : true = true)⟩, ⟨(rfl : true = true)⟩, ⟨(nT cL11)⟩, ⟨(nT cL11)⟩, ⟨(nT cL11)⟩, ⟨(nT cL11)⟩, ⟨(nT cL11)⟩, ⟨(nT cL11)⟩, ⟨cL9⟩, ⟨(ok_law06_same k v4000_2.2.2.1 v4000_3.2.2.1 _ eL10)⟩, ⟨cL9⟩, ⟨cL9⟩, ⟨cL9⟩, ⟨(ok_ref06_Tick k v4001_4 v4001_5 v4000_1.2.2 _ eL8)⟩, ⟨(ok_wheel_Tick k v4001_2 v4001_3 v4000_1.2.2 _ eL7)⟩, ⟨cL6⟩, ⟨cL5⟩, ⟨cL4⟩, ⟨(rfl : eqI 5 0 = false)⟩, ⟨(cells_map (e := e_u8_i64_i64) eL3 3 0 3 (by decide))⟩, ⟨cL2⟩, ⟨(len_map e_u8_i64_i64 x1)⟩, ⟨cL1⟩, ⟨cL0⟩, ⟨cL0⟩, ⟨cL0⟩, ⟨(len_map e_u8_i64_i64 x1)⟩] (by kernel_rfl) (fun s h => by cases h)
                · rw [if_neg cL9] at h
                  replace cL9 := eqf cL9
                  obtain rfl := Option.some.inj h
                  show LT _ _ _ _ (.fin (.bool false) [])
                  exact LT.done mixed (hs := ⟨[], [], false, [], []⟩) (es := none) [.n x1.length, .d true, .d true, .d true, .d true, .n x1.length, .row [(.int .u8 v4000_1.1), (.int .i64 v4000_1.2.1), (.int .i64 v4000_1.2.2)], .d false, .d false, .d false, .d true, .call ⟨true, []⟩ (.tup [(.agg [(.int .i64 v4000_2.1), (.sl 2 (List.map e_i64_i64 v4000_2.2.1))]), (.sl 1 (List.map e_i64 v4000_2.2.2.1)), (.int .i64 v4000_2.2.2.2)]) [], .call ⟨true, []⟩ (.tup [(.agg [(.int .i64 v4000_3.1), (.sl 2 (List.map e_i64_i64 v4000_3.2.1))]), (.sl 1 (List.map e_i64 v4000_3.2.2.1)), (.int .i64 v4000_3.2.2.2)]) [], .d false, .d false, .d false, .d false, .d true, .d true, .d true, .d true, .d true, .d true, .d true, .d true, .d true, .d true, .d true] [⟨(rfl : true = true)⟩, ⟨(rfl : true = true)⟩, ⟨(rfl : true = true)⟩, ⟨(rfl : true = true)⟩, ⟨(rfl : true = true)⟩, ⟨(nT rfl)⟩, ⟨(nT rfl)⟩, ⟨(nT rfl)⟩, ⟨(nT rfl)⟩, ⟨(nT rfl)⟩, ⟨(nT rfl)⟩, ⟨cL9⟩, ⟨cL9⟩, ⟨cL9⟩, ⟨cL9⟩, ⟨(ok_ref06_Tick k v4001_4 v4001_5 v4000_1.2.2 _ eL8)⟩, ⟨(ok_wheel_Tick k v4001_2 v4001_3 v4000_1.2.2 _ eL7)⟩, ⟨cL6⟩, ⟨cL5⟩, ⟨cL4⟩, ⟨(rfl : eqI 5 0 = false)⟩, ⟨(cells_map (e := e_u8_i64_i64) eL3 3 0 3 (by decide))⟩, ⟨cL2⟩, ⟨(len_map e_u8_i64_i64 x1)⟩, ⟨cL1⟩, ⟨cL0⟩, ⟨cL0⟩, ⟨cL0⟩, ⟨(len_map e_u8_i64_i64 x1)⟩] (by kernel_rfl) (fun s h => by cases h)
              · rw [if_neg cL6] at h
                replace cL6 := eqf cL6
                obtain ⟨v4000_2, eL7, h⟩ := Option.bind_eq_some_iff.1 h
                obtain ⟨v4000_3, eL8, h⟩ := Option.bind_eq_some_iff.1 h
                by_cases cL9 : eqI v4000_2.2.2 v4000_3.2.2 = true
                · rw [if_pos cL9] at h
                  obtain ⟨v4000_4, eL10, h⟩ := Option.bind_eq_some_iff.1 h
                  obtain ⟨v4000_5, eL11, h⟩ := Option.bind_eq_some_iff.1 h
                  by_cases cL12 : v4000_5 = true
                  · rw [if_pos cL12] at h
                    obtain ⟨v4000_6, eL13, h⟩ := Option.bind_eq_some_iff.1 h
                    by_cases cL14 : v4000_6 = true
                    · rw [if_pos cL14] at h
                      exact LT.next mixed (hs := ⟨[(0, []), (3, []), (4, []), (5, [])], [⟨.tmp 3, [], none⟩, ⟨.tmp 4, [], none⟩], false, [], []⟩) (es := none) [.n x1.length, .d true, .d true, .d true, .d true, .n x1.length, .row [(.int .u8 v4000_1.1), (.int .i64 v4000_1.2.1), (.int .i64 v4000_1.2.2)], .d false, .d false, .d false, .d false, .call ⟨true, []⟩ (.tup [(.agg [(.int .i64 v4000_2.1), (.sl 2 (List.map e_i64_i64 v4000_2.2.1))]), (.int .i64 v4000_2.2.2)]) [], .call ⟨true, []⟩ (.tup [(.agg [(.int .i64 v4000_3.1), (.sl 2 (List.map e_i64_i64 v4000_3.2.1))]), (.int .i64 v4000_3.2.2)]) [], .d false, .d false, .call ⟨true, []⟩ (.agg [(.int .i64 v4000_4.1), (.sl 2 (List.map e_i64_i64 v4000_4.2))]) [], .d false, .d false, .call ⟨true, []⟩ (.bool v4000_5) [], .d false, .d false, .d false, .d false, .call ⟨true, []⟩ (.bool v4000_6) [], .d false, .d false, .d false] [⟨(nF cL14)⟩, ⟨(nF cL12)⟩, ⟨(nF cL12)⟩, ⟨(ok_wheel_Right k v4000_2.1 v4000_2.2.1 _ eL13)⟩, ⟨(nF cL12)⟩, ⟨(nF cL12)⟩, ⟨(nF cL9)⟩, ⟨(nF cL9)⟩, ⟨(ok_ref06_Same k v4000_4.1 v4000_4.2 v4000_3.1 v4000_3.2.1 _ eL11)⟩, ⟨(nF cL9)⟩, ⟨(nF cL9)⟩, ⟨(ok_law06_Ours k v4000_2.1 v4000_2.2.1 _ eL10)⟩, ⟨(nF cL9)⟩, ⟨(nF cL9)⟩, ⟨(ok_ref06_Set k v4001_4 v4001_5 v4000_1.2.1 v4000_1.2.2 _ eL8)⟩, ⟨(ok_wheel_Set k v4001_2 v4001_3 v4000_1.2.1 v4000_1.2.2 _ eL7)⟩, ⟨cL6⟩, ⟨cL5⟩, ⟨cL4⟩, ⟨(rfl : eqI 5 0 = false)⟩, ⟨(cells_map (e := e_u8_i64_i64) eL3 3 0 3 (by decide))⟩, ⟨cL2⟩, ⟨(len_map e_u8_i64_i64 x1)⟩, ⟨cL1⟩, ⟨cL0⟩, ⟨cL0⟩, ⟨cL0⟩, ⟨(len_map e_u8_i64_i64 x1)⟩] (by kernel_rfl) (ok_law06_WheelRow_l0 x1 y k (iadd .i64 v4001_1 1) v4000_2.1 v4000_2.2.1 v4000_3.1 v4000_3.2.1 h)
                    · rw [if_neg cL14] at h
                      replace cL14 := eqf cL14
                      obtain rfl := Option.some.inj h
                      show LT _ _ _ _ (.fin (.bool false) [])
                      exact LT.done mixed (hs := ⟨[], [], false, [], []⟩) (es := none) [.n x1.length, .d true, .d true, .d true, .d true, .n x1.length, .row [(.int .u8 v4000_1.1), (.int .i64 v4000_1.2.1), (.int .i64 v4000_1.2.2)], .d false, .d false, .d false, .d false, .call ⟨true, []⟩ (.tup [(.agg [(.int .i64 v4000_2.1), (.sl 2 (List.map e_i64_i64 v4000_2.2.1))]), (.int .i64 v4000_2.2.2)]) [], .call ⟨true, []⟩ (.tup [(.agg [(.int .i64 v4000_3.1), (.sl 2 (List.map e_i64_i64 v4000_3.2.1))]), (.int .i64 v4000_3.2.2)]) [], .d false, .d false, .call ⟨true, []⟩ (.agg [(.int .i64 v4000_4.1), (.sl 2 (List.map e_i64_i64 v4000_4.2))]) [], .d false, .d false, .call ⟨true, []⟩ (.bool v4000_5) [], .d false, .d false, .d false, .d false, .call ⟨true, []⟩ (.bool v4000_6) [], .d false, .d false, .d true] [⟨(nT cL14)⟩, ⟨(nF cL12)⟩, ⟨(nF cL12)⟩, ⟨(ok_wheel_Right k v4000_2.1 v4000_2.2.1 _ eL13)⟩, ⟨(nF cL12)⟩, ⟨(nF cL12)⟩, ⟨(nF cL9)⟩, ⟨(nF cL9)⟩, ⟨(ok_ref06_Same k v4000_4.1 v4000_4.2 v4000_3.1 v4000_3.2.1 _ eL11)⟩, ⟨(nF cL9)⟩, ⟨(nF cL9)⟩, ⟨(ok_law06_Ours k v4000_2.1 v4000_2.2.1 _ eL10)⟩, ⟨(nF cL9)⟩, ⟨(nF cL9)⟩, ⟨(ok_ref06_Set k v4001_4 v4001_5 v4000_1.2.1 v4000_1.2.2 _ eL8)⟩, ⟨(ok_wheel_Set k v4001_2 v4001_3 v4000_1.2.1 v4000_1.2.2 _ eL7)⟩, ⟨cL6⟩, ⟨cL5⟩, ⟨cL4⟩, ⟨(rfl : eqI 5 0 = false)⟩, ⟨(cells_map (e := e_u8_i64_i64) eL3 3 0 3 (by decide))⟩, ⟨cL2⟩, ⟨(len_map e_u8_i64_i64 x1)⟩, ⟨cL1⟩, ⟨cL0⟩, ⟨cL0⟩, ⟨cL0⟩, ⟨(len_map e_u8_i64_i64 x1)⟩] (by kernel_rfl) (fun s h => by cases h)
                  · rw [if_neg cL12] at h
                    replace cL12 := eqf cL12
                    obtain rfl := Option.some.inj h
                    show LT _ _ _ _ (.fin (.bool false) [])
                    exact LT.done mixed (hs := ⟨[], [], false, [], []⟩) (es := none) [.n x1.length, .d true, .d true, .d true, .d true, .n x1.length, .row [(.int .u8 v4000_1.1), (.int .i64 v4000_1.2.1), (.int .i64 v4000_1.2.2)], .d false, .d false, .d false, .d false, .call ⟨true, []⟩ (.tup [(.agg [(.int .i64 v4000_2.1), (.sl 2 (List.map e_i64_i64 v4000_2.2.1))]), (.int .i64 v4000_2.2.2)]) [], .call ⟨true, []⟩ (.tup [(.agg [(.int .i64 v4000_3.1), (.sl 2 (List.map e_i64_i64 v4000_3.2.1))]), (.int .i64 v4000_3.2.2)]) [], .d false, .d false, .call ⟨true, []⟩ (.agg [(.int .i64 v4000_4.1), (.sl 2 (List.map e_i64_i64 v4000_4.2))]) [], .d false, .d false, .call ⟨true, []⟩ (.bool v4000_5) [], .d false, .d false, .d true, .d true, .d true, .d true, .d true] [⟨(rfl : true = true)⟩, ⟨(nT cL12)⟩, ⟨(nT cL12)⟩, ⟨(nT cL12)⟩, ⟨(nT cL12)⟩, ⟨(nF cL9)⟩, ⟨(nF cL9)⟩, ⟨(ok_ref06_Same k v4000_4.1 v4000_4.2 v4000_3.1 v4000_3.2.1 _ eL11)⟩, ⟨(nF cL9)⟩, ⟨(nF cL9)⟩, ⟨(ok_law06_Ours k v4000_2.1 v4000_2.2.1 _ eL10)⟩, ⟨(nF cL9)⟩, ⟨(nF cL9)⟩, ⟨(ok_ref06_Set k v4001_4 v4001_5 v4000_1.2.1 v4000_1.2.2 _ eL8)⟩, ⟨(ok_wheel_Set k v4001_2 v4001_3 v4000_1.2.1 v4000_1.2.2 _ eL7)⟩, ⟨cL6⟩, ⟨cL5⟩, ⟨cL4⟩, ⟨(rfl : eqI 5 0 = false)⟩, ⟨(cells_map (e := e_u8_i64_i64) eL3 3 0 3 (by decide))⟩, ⟨cL2⟩, ⟨(len_map e_u8_i64_i64 x1)⟩, ⟨cL1⟩, ⟨cL0⟩, ⟨cL0⟩, ⟨cL0⟩, ⟨(len_map e_u8_i64_i64 x1)⟩] (by kernel_rfl) (fun s h => by cases h)
                · rw [if_neg cL9] at h
                  replace cL9 := eqf cL9
                  obtain rfl := Option.some.inj h
                  show LT _ _ _ _ (.fin (.bool false) [])
                  exact LT.done mixed (hs := ⟨[], [], false, [], []⟩) (es := none) [.n x1.length, .d true, .d true, .d true, .d true, .n x1.length, .row [(.int .u8 v4000_1.1), (.int .i64 v4000_1.2.1), (.int .i64 v4000_1.2.2)], .d false, .d false, .d false, .d false, .call ⟨true, []⟩ (.tup [(.agg [(.int .i64 v4000_2.1), (.sl 2 (List.map e_i64_i64 v4000_2.2.1))]), (.int .i64 v4000_2.2.2)]) [], .call ⟨true, []⟩ (.tup [(.agg [(.int .i64 v4000_3.1), (.sl 2 (List.map e_i64_i64 v4000_3.2.1))]), (.int .i64 v4000_3.2.2)]) [], .d true, .d true, .d true, .d true, .d true, .d true, .d true, .d true, .d true, .d true, .d true] [⟨(rfl : true = true)⟩, ⟨(rfl : true = true)⟩, ⟨(rfl : true = true)⟩, ⟨(rfl : true = true)⟩, ⟨(rfl : true = true)⟩, ⟨(nT cL9)⟩, ⟨(nT cL9)⟩, ⟨(nT cL9)⟩, ⟨(nT cL9)⟩, ⟨(nT cL9)⟩, ⟨(nT cL9)⟩, ⟨(ok_ref06_Set k v4001_4 v4001_5 v4000_1.2.1 v4000_1.2.2 _ eL8)⟩, ⟨(ok_wheel_Set k v4001_2 v4001_3 v4000_1.2.1 v4000_1.2.2 _ eL7)⟩, ⟨cL6⟩, ⟨cL5⟩, ⟨cL4⟩, ⟨(rfl : eqI 5 0 = false)⟩, ⟨(cells_map (e := e_u8_i64_i64) eL3 3 0 3 (by decide))⟩, ⟨cL2⟩, ⟨(len_map e_u8_i64_i64 x1)⟩, ⟨cL1⟩, ⟨cL0⟩, ⟨cL0⟩, ⟨cL0⟩, ⟨(len_map e_u8_i64_i64 x1)⟩] (by kernel_rfl) (fun s h => by cases h)
        · rw [if_neg cL2] at h
          replace cL2 := eqf cL2
          cases h
      · rw [if_neg cL1] at h
        replace cL1 := eqf cL1
        obtain rfl := Option.some.inj h
        show LT _ _ _ _ (.st (.exit 0) (E4_0_0))
        exact LT.done mixed (hs := ⟨[], [], false, [], []⟩) (es := (some ⟨[], [], false, [], []⟩)) [.n x1.length, .d true, .d true, .d true, .d false] [⟨cL1⟩, ⟨cL0⟩, ⟨cL0⟩, ⟨cL0⟩, ⟨(len_map e_u8_i64_i64 x1)⟩] (by kernel_rfl) (fun s h => by cases h)
    · rw [if_neg cL0] at h
      replace cL0 := eqf cL0
      obtain rfl := Option.some.inj h
      show LT _ _ _ _ (.st (.exit 0) (E4_0_0))
      exact LT.done mixed (hs := ⟨[], [], false, [], []⟩) (es := (some ⟨[], [], false, [], []⟩)) [.n x1.length, .d false, .d false, .d false, .d false] [⟨(rfl : false = false)⟩, ⟨cL0⟩, ⟨cL0⟩, ⟨cL0⟩, ⟨(len_map e_u8_i64_i64 x1)⟩] (by kernel_rfl) (fun s h => by cases h)
theorem ok_law06_WheelRow (k : Nat) (x1 : List (Int × Int × Int)) (r : Bool) (h : law06_WheelRow k x1 = some r) : Tri Try.prog 4 [(.sl 3 (List.map e_u8_i64_i64 x1))] [] (.bool r) [] := by
    unfold law06_WheelRow at h
    obtain ⟨x2, e0, h⟩ := Option.bind_eq_some_iff.1 h
    by_cases c1 : x2 = true
    · rw [if_pos c1] at h
      obtain ⟨x3, e2, h⟩ := Option.bind_eq_some_iff.1 h
      cases x3 with
      | inl x4 =>
        simp only [Sum.elim_inl] at h
        obtain rfl := Option.some.inj h
        exact Tri.of (x := X4) mixed facts4 [.call ⟨true, []⟩ (.bool x2) [], .d false, .norm 2 ⟨[(0, []), (3, []), (4, []), (5, [])], [⟨.tmp 3, [(1, 2)], none⟩, ⟨.tmp 4, [(1, 2)], none⟩], false, [], []⟩, .out (.st .normal (E4_0_0))] [⟨(LT.block (ok_law06_WheelRow_l0 x1 _ k 0 0 [] 0 [] e2))⟩, ⟨(nF c1)⟩, ⟨(ok_law06_alive k _ e0)⟩] (by kernel_rfl)
      | inr x4 =>
        simp only [Sum.elim_inr] at h
        obtain rfl := Option.some.inj h
        exact Tri.of (x := X4) mixed facts4 [.call ⟨true, []⟩ (.bool x2) [], .d false, .norm 2 ⟨[(0, []), (3, []), (4, []), (5, [])], [⟨.tmp 3, [(1, 2)], none⟩, ⟨.tmp 4, [(1, 2)], none⟩], false, [], []⟩, .out (.fin (.bool x4) [])] [⟨(LT.blockFin (id := 0) (ok_law06_WheelRow_l0 x1 _ k 0 0 [] 0 [] e2))⟩, ⟨(nF c1)⟩, ⟨(ok_law06_alive k _ e0)⟩] (by kernel_rfl)
    · rw [if_neg c1] at h
      replace c1 := eqf c1
      obtain rfl := Option.some.inj h
      exact Tri.of (x := X4) mixed facts4 [.call ⟨true, []⟩ (.bool x2) [], .d true] [⟨(nT c1)⟩, ⟨(ok_law06_alive k _ e0)⟩] (by kernel_rfl)
end Go.Ws
