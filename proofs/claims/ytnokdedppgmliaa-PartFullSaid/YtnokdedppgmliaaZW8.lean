/-
  law09_PartFull: what the machine makes of it. (Printed by my own program.)
  Conditions: none.
-/
import Derived.Test.YtnokdedppgmliaaZPre
import Derived.Test.YtnokdedppgmliaaZPure
import Derived.Test.YtnokdedppgmliaaZW21
import Derived.Test.YtnokdedppgmliaaZW22
import Derived.Test.YtnokdedppgmliaaZW9
set_option linter.unusedVariables false
set_option linter.unusedSimpArgs false
namespace Go.Ws
open Go.Proofs
set_option linter.unusedSimpArgs false
set_option linter.unusedVariables false
set_option maxRecDepth 1000000
set_option maxHeartbeats 4000000
noncomputable def X8 : Ctx := ⟨Try.f8, [], true⟩
noncomputable def L8_0 : Code := at_ Try.f8 [1, 1, 1, 0, 1, 4, 5]
def S8_0 (x1 : Int) (x2 : Bool) (v8001_1 : Int) (v8001_2 : Int) (v8001_3 : List (Int × Int)) (v8001_4 : Bool) (v8001_5 : Int) : St := ⟨mkT 94 [(0, (.int .u8 x1)), (1, (.bool x2)), (5, (.hp 0 0)), (20, (.int .i64 (iadd .i64 (conv .i64 (irem .u8 x1 60)) 1))), (21, (.int .i64 v8001_1))], [(.row [(.int .i64 v8001_2), (.sl 2 (List.map e_u8_i64 v8001_3)), (.bool v8001_4), (.int .i64 v8001_5)])]⟩
def E8_0_0 (x1 : Int) (x2 : Bool) (v8002_1 : Int) (v8002_2 : List (Int × Int)) (v8002_3 : Bool) (v8002_4 : Int) : St := ⟨mkT 94 [(0, (.int .u8 x1)), (1, (.bool x2)), (5, (.hp 0 0))], [(.row [(.int .i64 v8002_1), (.sl 2 (List.map e_u8_i64 v8002_2)), (.bool v8002_3), (.int .i64 v8002_4)])]⟩
def O8_0 (x1 : Int) (x2 : Bool) (y : (Sum (Int × (List (Int × Int)) × Bool × Int) (Bool))) : GX := match y with
  | .inl y => .st (.exit 0) (E8_0_0 x1 x2 y.1 y.2.1 y.2.2.1 y.2.2.2)
  | .inr y => .fin (.bool y) []
theorem ok_law09_PartFull_l0 (x1 : Int) (x2 : Bool) (y : (Sum (Int × (List (Int × Int)) × Bool × Int) (Bool))) : ∀ (k : Nat) (v8001_1 : Int) (v8001_2 : Int) (v8001_3 : List (Int × Int)) (v8001_4 : Bool) (v8001_5 : Int), law09_PartFull_l0 k x1 x2 v8001_1 v8001_2 v8001_3 v8001_4 v8001_5 = some y → LT Try.prog X8 L8_0 (S8_0 x1 x2 v8001_1 v8001_2 v8001_3 v8001_4 v8001_5) (O8_0 x1 x2 y)
  | 0, v8001_1, v8001_2, v8001_3, v8001_4, v8001_5, h => by cases h
  | k + 1, v8001_1, v8001_2, v8001_3, v8001_4, v8001_5, h => by
    rw [law09_PartFull_l0] at h
    by_cases cL0 : ltI v8001_1 (iadd .i64 (conv .i64 (irem .u8 x1 60)) 1) = true
    · rw [if_pos cL0] at h
      obtain ⟨v8000_1, eL1, h⟩ := Option.bind_eq_some_iff.1 h
      by_cases cL2 : eqB (eqI v8000_1.2.2.2.2 0) (ltI v8001_1 50) = true
      · rw [if_pos cL2] at h
        by_cases cL3 : eqI v8000_1.2.2.2.2 0 = true
        · rw [if_pos cL3] at h
          exact LT.next mixed (hs := ⟨[(0, []), (1, []), (5, []), (20, []), (21, [])], [⟨.tmp 5, [], none⟩], false, [], []⟩) (es := none) [.d true, .d false, .call ⟨true, []⟩ (.tup [(.agg [(.int .i64 v8000_1.1), (.sl 2 (List.map e_u8_i64 v8000_1.2.1)), (.bool v8000_1.2.2.1), (.int .i64 v8000_1.2.2.2.1)]), (.int .i64 v8000_1.2.2.2.2)]) [], .d false, .d false, .d false, .d false, .d false, .d false, .d false, .d false, .d false] [⟨(rfl : false = false)⟩, ⟨(nF cL2)⟩, ⟨(nF cL3)⟩, ⟨(nF cL2)⟩, ⟨(nF cL3)⟩, ⟨(nF cL3)⟩, ⟨(nF cL2)⟩, ⟨(nF cL2)⟩, ⟨(nF cL2)⟩, ⟨(ok_part_Add k v8001_2 v8001_3 v8001_4 v8001_5 (conv .u8 (irem .i64 v8001_1 64)) 1 _ eL1)⟩, ⟨(rfl : eqI 64 0 = false)⟩, ⟨cL0⟩] (by kernel_rfl) (ok_law09_PartFull_l0 x1 x2 y k (iadd .i64 v8001_1 1) v8000_1.1 v8000_1.2.1 v8000_1.2.2.1 v8000_1.2.2.2.1 h)
        · rw [if_neg cL3] at h
          replace cL3 := eqf cL3
          by_cases cL4 : eqI v8000_1.2.2.2.2 6 = true
          · rw [if_pos cL4] at h
            exact LT.next mixed (hs := ⟨[(0, []), (1, []), (5, []), (20, []), (21, [])], [⟨.tmp 5, [], none⟩], false, [], []⟩) (es := none) [.d true, .d false, .call ⟨true, []⟩ (.tup [(.agg [(.int .i64 v8000_1.1), (.sl 2 (List.map e_u8_i64 v8000_1.2.1)), (.bool v8000_1.2.2.1), (.int .i64 v8000_1.2.2.2.1)]), (.int .i64 v8000_1.2.2.2.2)]) [], .d false, .d false, .d false, .d true, .d true, .d false, .d true, .d false, .d false] [⟨(nF cL4)⟩, ⟨(nF cL2)⟩, ⟨(nT cL3)⟩, ⟨(nF cL2)⟩, ⟨(nT cL3)⟩, ⟨(nT cL3)⟩, ⟨(nF cL2)⟩, ⟨(nF cL2)⟩, ⟨(nF cL2)⟩, ⟨(ok_part_Add k v8001_2 v8001_3 v8001_4 v8001_5 (conv .u8 (irem .i64 v8001_1 64)) 1 _ eL1)⟩, ⟨(rfl : eqI 64 0 = false)⟩, ⟨cL0⟩] (by kernel_rfl) (ok_law09_PartFull_l0 x1 x2 y k (iadd .i64 v8001_1 1) v8000_1.1 v8000_1.2.1 v8000_1.2.2.1 v8000_1.2.2.2.1 h)
          · rw [if_neg cL4] at h
            replace cL4 := eqf cL4
            obtain rfl := Option.some.inj h
            show LT _ _ _ _ (.fin (.bool false) [])
            exact LT.done mixed (hs := ⟨[], [], false, [], []⟩) (es := none) [.d true, .d false, .call ⟨true, []⟩ (.tup [(.agg [(.int .i64 v8000_1.1), (.sl 2 (List.map e_u8_i64 v8000_1.2.1)), (.bool v8000_1.2.2.1), (.int .i64 v8000_1.2.2.2.1)]), (.int .i64 v8000_1.2.2.2.2)]) [], .d false, .d false, .d false, .d true, .d true, .d false, .d true, .d false, .d true] [⟨(nT cL4)⟩, ⟨(nF cL2)⟩, ⟨(nT cL3)⟩, ⟨(nF cL2)⟩, ⟨(nT cL3)⟩, ⟨(nT cL3)⟩, ⟨(nF cL2)⟩, ⟨(nF cL2)⟩, ⟨(nF cL2)⟩, ⟨(ok_part_Add k v8001_2 v8001_3 v8001_4 v8001_5 (conv .u8 (irem .i64 v8001_1 64)) 1 _ eL1)⟩, ⟨(rfl : eqI 64 0 = false)⟩, ⟨cL0⟩] (by kernel_rfl) (fun s h => by cases h)
      · rw [if_neg cL2] at h
        replace cL2 := eqf cL2
        obtain rfl := Option.some.inj h
        show LT _ _ _ _ (.fin (.bool false) [])
        exact LT.done mixed (hs := ⟨[], [], false, [], []⟩) (es := none) [.d true, .d false, .call ⟨true, []⟩ (.tup [(.agg [(.int .i64 v8000_1.1), (.sl 2 (List.map e_u8_i64 v8000_1.2.1)), (.bool v8000_1.2.2.1), (.int .i64 v8000_1.2.2.2.1)]), (.int .i64 v8000_1.2.2.2.2)]) [], .d true, .d true, .d true, .d true, .d true, .d true] [⟨(rfl : true = true)⟩, ⟨(nT cL2)⟩, ⟨(nT cL2)⟩, ⟨(nT cL2)⟩, ⟨(nT cL2)⟩, ⟨(nT cL2)⟩, ⟨(ok_part_Add k v8001_2 v8001_3 v8001_4 v8001_5 (conv .u8 (irem .i64 v8001_1 64)) 1 _ eL1)⟩, ⟨(rfl : eqI 64 0 = false)⟩, ⟨cL0⟩] (by kernel_rfl) (fun s h => by cases h)
    · rw [if_neg cL0] at h
      replace cL0 := eqf cL0
      obtain rfl := Option.some.inj h
      show LT _ _ _ _ (.st (.exit 0) (E8_0_0 x1 x2 v8001_2 v8001_3 v8001_4 v8001_5))
      exact LT.done mixed (hs := ⟨[], [], false, [], []⟩) (es := (some ⟨[(0, []), (1, []), (5, [])], [⟨.tmp 5, [], none⟩], false, [], []⟩)) [.d false] [⟨cL0⟩] (by kernel_rfl) (fun s h => by cases h)
theorem ok_law09_PartFull (k : Nat) (x1 : Int) (x2 : Bool) (r : Bool) (h : law09_PartFull k x1 x2 = some r) : Tri Try.prog 8 [(.int .u8 x1), (.bool x2)] [] (.bool r) [] := by
    unfold law09_PartFull at h
    obtain ⟨x3, e0, h⟩ := Option.bind_eq_some_iff.1 h
    by_cases c1 : x3 = true
    · rw [if_pos c1] at h
      obtain ⟨x4, e2, h⟩ := Option.bind_eq_some_iff.1 h
      cases x4 with
      | inl x5 =>
        simp only [Sum.elim_inl] at h
        obtain ⟨x6, e4, h⟩ := Option.bind_eq_some_iff.1 h
        obtain ⟨x7, e5, h⟩ := Option.bind_eq_some_iff.1 h
        obtain ⟨x8, e6, h⟩ := Option.bind_eq_some_iff.1 h
        by_cases c7 : eqI x6.2.2.2.2 0 = true
        · rw [if_pos c7] at h
          by_cases c8 : eqI x7.2.2.2.2 13 = true
          · rw [if_pos c8] at h
            by_cases c9 : eqI x8.2.2.2.2 13 = true
            · rw [if_pos c9] at h
              by_cases c10 : eqI (nI x6.2.1.length) (imin (iadd .i64 (conv .i64 (irem .u8 x1 60)) 1) 50) = true
              · rw [if_pos c10] at h
                obtain rfl := Option.some.inj h
                exact Tri.of (x := X8) mixed facts8 [.call ⟨true, []⟩ (.bool x3) [], .d false, .d false, .norm 2 ⟨[(0, []), (1, []), (5, []), (20, []), (21, [])], [⟨.tmp 5, [(1, 2)], none⟩], false, [], []⟩, .out (.st .normal (E8_0_0 x1 x2 x5.1 x5.2.1 x5.2.2.1 x5.2.2.2)), .call ⟨true, []⟩ (.tup [(.agg [(.int .i64 x6.1), (.sl 2 (List.map e_u8_i64 x6.2.1)), (.bool x6.2.2.1), (.int .i64 x6.2.2.2.1)]), (.int .i64 x6.2.2.2.2)]) [], .call ⟨true, []⟩ (.tup [(.agg [(.int .i64 x7.1), (.sl 2 (List.map e_u8_i64 x7.2.1)), (.bool x7.2.2.1), (.int .i64 x7.2.2.2.1)]), (.int .i64 x7.2.2.2.2)]) [], .call ⟨true, []⟩ (.tup [(.agg [(.int .i64 x8.1), (.sl 2 (List.map e_u8_i64 x8.2.1)), (.bool x8.2.2.1), (.int .i64 x8.2.2.2.1)]), (.int .i64 x8.2.2.2.2)]) [], .d true, .d true, .d true, .d true, .d true, .d true, .d true, .d true, .d true, .n x6.2.1.length, .d true, .d true, .d false, .d true, .d true, .d true, .d true, .d true, .d true, .d true, .d true, .d true, .d true, .d true] [⟨c10⟩, ⟨c10⟩, ⟨c10⟩, ⟨c10⟩, ⟨c10⟩, ⟨c10⟩, ⟨c9⟩, ⟨c9⟩, ⟨c9⟩, ⟨c9⟩, ⟨c9⟩, ⟨(rfl : eqI 60 0 = false)⟩, ⟨c9⟩, ⟨c9⟩, ⟨(len_map e_u8_i64 x6.2.1)⟩, ⟨c9⟩, ⟨c9⟩, ⟨c9⟩, ⟨c8⟩, ⟨c8⟩, ⟨c8⟩, ⟨c7⟩, ⟨c7⟩, ⟨c7⟩, ⟨(ok_part_Vote k x6.1 x6.2.1 x6.2.2.1 x6.2.2.2.1 x2 _ e6)⟩, ⟨(ok_part_Add k x6.1 x6.2.1 x6.2.2.1 x6.2.2.2.1 1 1 _ e5)⟩, ⟨(ok_part_Vote k x5.1 x5.2.1 x5.2.2.1 x5.2.2.2 x2 _ e4)⟩, ⟨(LT.block (ok_law09_PartFull_l0 x1 x2 _ k 0 0 [] false 0 e2))⟩, ⟨(rfl : eqI 60 0 = false)⟩, ⟨(nF c1)⟩, ⟨(ok_law09_alive k _ e0)⟩] (by kernel_rfl)
              · rw [if_neg c10] at h
                replace c10 := eqf c10
                obtain rfl := Option.some.inj h
                exact Tri.of (x := X8) mixed facts8 [.call ⟨true, []⟩ (.bool x3) [], .d false, .d false, .norm 2 ⟨[(0, []), (1, []), (5, []), (20, []), (21, [])], [⟨.tmp 5, [(1, 2)], none⟩], false, [], []⟩, .out (.st .normal (E8_0_0 x1 x2 x5.1 x5.2.1 x5.2.2.1 x5.2.2.2)), .call ⟨true, []⟩ (.tup [(.agg [(.int .i64 x6.1), (.sl 2 (List.map e_u8_i64 x6.2.1)), (.bool x6.2.2.1), (.int .i64 x6.2.2.2.1)]), (.int .i64 x6.2.2.2.2)]) [], .call ⟨true, []⟩ (.tup [(.agg [(.int .i64 x7.1), (.sl 2 (List.map e_u8_i64 x7.2.1)), (.bool x7.2.2.1), (.int .i64 x7.2.2.2.1)]), (.int .i64 x7.2.2.2.2)]) [], .call ⟨true, []⟩ (.tup [(.agg [(.int .i64 x8.1), (.sl 2 (List.map e_u8_i64 x8.2.1)), (.bool x8.2.2.1), (.int .i64 x8.2.2.2.1)]), (.int .i64 x8.2.2.2.2)]) [], .d true, .d true, .d true, .d true, .d true, .d true, .d true, .d true, .d true, .n x6.2.1.length, .d true, .d true, .d false, .d true, .d true, .d true, .d true, .d true, .d false, .d false, .d false, .d false, .d false, .d false] [⟨c10⟩, ⟨c10⟩, ⟨c10⟩, ⟨c10⟩, ⟨c10⟩, ⟨c10⟩, ⟨c9⟩, ⟨c9⟩, ⟨c9⟩, ⟨c9⟩, ⟨c9⟩, ⟨(rfl : eqI 60 0 = false)⟩, ⟨c9⟩, ⟨c9⟩, ⟨(len_map e_u8_i64 x6.2.1)⟩, ⟨c9⟩, ⟨c9⟩, ⟨c9⟩, ⟨c8⟩, ⟨c8⟩, ⟨c8⟩, ⟨c7⟩, ⟨c7⟩, ⟨c7⟩, ⟨(ok_part_Vote k x6.1 x6.2.1 x6.2.2.1 x6.2.2.2.1 x2 _ e6)⟩, ⟨(ok_part_Add k x6.1 x6.2.1 x6.2.2.1 x6.2.2.2.1 1 1 _ e5)⟩, ⟨(ok_part_Vote k x5.1 x5.2.1 x5.2.2.1 x5.2.2.2 x2 _ e4)⟩, ⟨(LT.block (ok_law09_PartFull_l0 x1 x2 _ k 0 0 [] false 0 e2))⟩, ⟨(rfl : eqI 60 0 = false)⟩, ⟨(nF c1)⟩, ⟨(ok_law09_alive k _ e0)⟩] (by kernel_rfl)
            · rw [if_neg c9] at h
              replace c9 := eqf c9
              obtain rfl := Option.some.inj h
              exact Tri.of (x := X8) mixed facts8 [.call ⟨true, []⟩ (.bool x3) [], .d false, .d false, .norm 2 ⟨[(0, []), (1, []), (5, []), (20, []), (21, [])], [⟨.tmp 5, [(1, 2)], none⟩], false, [], []⟩, .out (.st .normal (E8_0_0 x1 x2 x5.1 x5.2.1 x5.2.2.1 x5.2.2.2)), .call ⟨true, []⟩ (.tup [(.agg [(.int .i64 x6.1), (.sl 2 (List.map e_u8_i64 x6.2.1)), (.bool x6.2.2.1), (.int .i64 x6.2.2.2.1)]), (.int .i64 x6.2.2.2.2)]) [], .call ⟨true, []⟩ (.tup [(.agg [(.int .i64 x7.1), (.sl 2 (List.map e_u8_i64 x7.2.1)), (.bool x7.2.2.1), (.int .i64 x7.2.2.2.1)]), (.int .i64 x7.2.2.2.2)]) [], .call ⟨true, []⟩ (.tup [(.agg [(.int .i64 x8.1), (.sl 2 (List.map e_u8_i64 x8.2.1)), (.bool x8.2.2.1), (.int .i64 x8.2.2.2.1)]), (.int .i64 x8.2.2.2.2)]) [], .d true, .d true, .d true, .d true, .d true, .d true, .d false, .d false, .d false, .d false, .d false, .d false, .d false, .d false, .d false, .d false, .d false, .d false, .d false, .d false, .d false, .d false] [⟨(rfl : false = false)⟩, ⟨(rfl : false = false)⟩, ⟨(rfl : false = false)⟩, ⟨(rfl : false = false)⟩, ⟨(rfl : false = false)⟩, ⟨(rfl : false = false)⟩, ⟨c9⟩, ⟨c9⟩, ⟨c9⟩, ⟨c9⟩, ⟨c9⟩, ⟨c9⟩, ⟨c9⟩, ⟨c9⟩, ⟨c9⟩, ⟨c9⟩, ⟨c8⟩, ⟨c8⟩, ⟨c8⟩, ⟨c7⟩, ⟨c7⟩, ⟨c7⟩, ⟨(ok_part_Vote k x6.1 x6.2.1 x6.2.2.1 x6.2.2.2.1 x2 _ e6)⟩, ⟨(ok_part_Add k x6.1 x6.2.1 x6.2.2.1 x6.2.2.2.1 1 1 _ e5)⟩, ⟨(ok_part_Vote k x5.1 x5.2.1 x5.2.2.1 x5.2.2.2 x2 _ e4)⟩, ⟨(LT.block (ok_law09_PartFull_l0 x1 x2 _ k 0 0 [] false 0 e2))⟩, ⟨(rfl : eqI 60 0 = false)⟩, ⟨(nF c1)⟩, ⟨(ok_law09_alive k _ e0)⟩] (by kernel_rfl)
          · rw [if_neg c8] at h
            replace c8 := eqf c8
            obtain rfl := Option.some.inj h
            exact Tri.of (x := X8) mixed facts8 [.call ⟨true, []⟩ (.bool x3) [], .d false, .d false, .norm 2 ⟨[(0, []), (1, []), (5, []), (20, []), (21, [])], [⟨.tmp 5, [(1, 2)], none⟩], false, [], []⟩, .out (.st .normal (E8_0_0 x1 x2 x5.1 x5.2.1 x5.2.2.1 x5.2.2.2)), .call ⟨true, []⟩ (.tup [(.agg [(.int .i64 x6.1), (.sl 2 (List.map e_u8_i64 x6.2.1)), (.bool x6.2.2.1), (.int .i64 x6.2.2.2.1)]), (.int .i64 x6.2.2.2.2)]) [], .call ⟨true, []⟩ (.tup [(.agg [(.int .i64 x7.1), (.sl 2 (List.map e_u8_i64 x7.2.1)), (.bool x7.2.2.1), (.int .i64 x7.2.2.2.1)]), (.int .i64 x7.2.2.2.2)]) [], .call ⟨true, []⟩ (.tup [(.agg [(.int .i64 x8.1), (.sl 2 (List.map e_u8_i64 x8.2.1)), (.bool x8.2.2.1), (.int .i64 x8.2.2.2.1)]), (.int .i64 x8.2.2.2.2)]) [], .d true, .d true, .d true, .d false, .d false, .d false, .d false, .d false, .d false, .d false, .d false, .d false, .d false, .d false, .d false, .d false, .d false, .d false, .d false, .d false, .d false, .d false] [⟨(rfl : false = false)⟩, ⟨(rfl : false = false)⟩, ⟨(rfl : false = false)⟩, ⟨(rfl : false = false)⟩, ⟨(rfl : false = false)⟩, ⟨(rfl : false = false)⟩, ⟨(rfl : false = false)⟩, ⟨(rfl : false = false)⟩, ⟨(rfl : false = false)⟩, ⟨(rfl : false = false)⟩, ⟨(rfl : false = false)⟩, ⟨(rfl : false = false)⟩, ⟨(rfl : false = false)⟩, ⟨(rfl : false = false)⟩, ⟨(rfl : false = false)⟩, ⟨(rfl : false = false)⟩, ⟨c8⟩, ⟨c8⟩, ⟨c8⟩, ⟨c7⟩, ⟨c7⟩, ⟨c7⟩, ⟨(ok_part_Vote k x6.1 x6.2.1 x6.2.2.1 x6.2.2.2.1 x2 _ e6)⟩, ⟨(ok_part_Add k x6.1 x6.2.1 x6.2.2.1 x6.2.2.2.1 1 1 _ e5)⟩, ⟨(ok_part_Vote k x5.1 x5.2.1 x5.2.2.1 x5.2.2.2 x2 _ e4)⟩, ⟨(LT.block (ok_law09_PartFull_l0 x1 x2 _ k 0 0 [] false 0 e2))⟩, ⟨(rfl : eqI 60 0 = false)⟩, ⟨(nF c1)⟩, ⟨(ok_law09_alive k _ e0)⟩] (by kernel_rfl)
        · rw [if_neg c7] at h
          replace c7 := eqf c7
          obtain rfl := Option.some.inj h
          exact Tri.of (x := X8) mixed facts8 [.call ⟨true, []⟩ (.bool x3) [], .d false, .d false, .norm 2 ⟨[(0, []), (1, []), (5, []), (20, []), (21, [])], [⟨.tmp 5, [(1, 2)], none⟩], false, [], []⟩, .out (.st .normal (E8_0_0 x1 x2 x5.1 x5.2.1 x5.2.2.1 x5.2.2.2)), .call ⟨true, []⟩ (.tup [(.agg [(.int .i64 x6.1), (.sl 2 (List.map e_u8_i64 x6.2.1)), (.bool x6.2.2.1), (.int .i64 x6.2.2.2.1)]), (.int .i64 x6.2.2.2.2)]) [], .call ⟨true, []⟩ (.tup [(.agg [(.int .i64 x7.1), (.sl 2 (List.map e_u8_i64 x7.2.1)), (.bool x7.2.2.1), (.int .i64 x7.2.2.2.1)]), (.int .i64 x7.2.2.2.2)]) [], .call ⟨true, []⟩ (.tup [(.agg [(.int .i64 x8.1), (.sl 2 (List.map e_u8_i64 x8.2.1)), (.bool x8.2.2.1), (.int .i64 x8.2.2.2.1)]), (.int .i64 x8.2.2.2.2)]) [], .d false, .d false, .d false, .d false, .d false, .d false, .d false, .d false, .d false, .d false, .d false, .d false, .d false, .d false, .d false, .d false, .d false, .d false, .d false, .d false, .d false, .d false] [⟨(rfl : false = false)⟩, ⟨(rfl : false = false)⟩, ⟨(rfl : false = false)⟩, ⟨(rfl : false = false)⟩, ⟨(rfl : false = false)⟩, ⟨(rfl : false = false)⟩, ⟨(rfl : false = false)⟩, ⟨(rfl : false = false)⟩, ⟨(rfl : false = false)⟩, ⟨(rfl : false = false)⟩, ⟨(rfl : false = false)⟩, ⟨(rfl : false = false)⟩, ⟨(rfl : false = false)⟩, ⟨(rfl : false = false)⟩, ⟨(rfl : false = false)⟩, ⟨(rfl : false = false)⟩, ⟨(rfl : false = false)⟩, ⟨(rfl : false = false)⟩, ⟨(rfl : false = false)⟩, ⟨c7⟩, ⟨c7⟩, ⟨c7⟩, ⟨(ok_part_Vote k x6.1 x6.2.1 x6.2.2.1 x6.2.2.2.1 x2 _ e6)⟩, ⟨(ok_part_Add k x6.1 x6.2.1 x6.2.2.1 x6.2.2.2.1 1 1 _ e5)⟩, ⟨(ok_part_Vote k x5.1 x5.2.1 x5.2.2.1 x5.2.2.2 x2 _ e4)⟩, ⟨(LT.block (ok_law09_PartFull_l0 x1 x2 _ k 0 0 [] false 0 e2))⟩, ⟨(rfl : eqI 60 0 = false)⟩, ⟨(nF c1)⟩, ⟨(ok_law09_alive k _ e0)⟩] (by kernel_rfl)
      | inr x5 =>
        simp only [Sum.elim_inr] at h
        obtain rfl := Option.some.inj h
        exact Tri.of (x := X8) mixed facts8 [.call ⟨true, []⟩ (.bool x3) [], .d false, .d false, .norm 2 ⟨[(0, []), (1, []), (5, []), (20, []), (21, [])], [⟨.tmp 5, [(1, 2)], none⟩], false, [], []⟩, .out (.fin (.bool x5) [])] [⟨(LT.blockFin (id := 0) (ok_law09_PartFull_l0 x1 x2 _ k 0 0 [] false 0 e2))⟩, ⟨(rfl : eqI 60 0 = false)⟩, ⟨(nF c1)⟩, ⟨(ok_law09_alive k _ e0)⟩] (by kernel_rfl)
    · rw [if_neg c1] at h
      replace c1 := eqf c1
      obtain rfl := Option.some.inj h
      exact Tri.of (x := X8) mixed facts8 [.call ⟨true, []⟩ (.bool x3) [], .d true] [⟨(nT c1)⟩, ⟨(ok_law09_alive k _ e0)⟩] (by kernel_rfl)
end Go.Ws
