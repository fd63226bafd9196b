/-
  law08_LedgerZero: what the machine makes of it. (Printed by my own program.)
  Conditions: none.
-/
import Derived.Test.YtlgkcajgkahmgaaZPre
import Derived.Test.YtlgkcajgkahmgaaZPure
import Derived.Test.YtlgkcajgkahmgaaZW10
import Derived.Test.YtlgkcajgkahmgaaZW11
import Derived.Test.YtlgkcajgkahmgaaZW12
import Derived.Test.YtlgkcajgkahmgaaZW13
import Derived.Test.YtlgkcajgkahmgaaZW15
import Derived.Test.YtlgkcajgkahmgaaZW9
set_option linter.unusedVariables false
set_option linter.unusedSimpArgs false
namespace Go.Ws
open Go.Proofs
set_option linter.unusedSimpArgs false
set_option linter.unusedVariables false
set_option maxRecDepth 1000000
set_option maxHeartbeats 4000000
noncomputable def X5 : Ctx := ⟨Try.f5, [], true⟩
noncomputable def L5_0 : Code := at_ Try.f5 [1, 1, 1, 1, 1, 0, 1, 4, 5]
def S5_0 (x7 : (List (Int × Int)) × Int) (x8 : (List (Int × Int)) × Int) (v5001_1 : Int) : St := ⟨mkT 67 [(7, (.sl 2 (List.map e_u8_i64 x7.1))), (8, (.int .i64 x7.2)), (9, (.sl 2 (List.map e_u8_i64 x8.1))), (10, (.int .i64 x8.2)), (46, (.sl 2 (List.map e_u8_i64 x7.1))), (47, (.int .i64 (nI x7.1.length))), (48, (.int .i64 v5001_1))], []⟩
def E5_0_0 (x7 : (List (Int × Int)) × Int) (x8 : (List (Int × Int)) × Int) : St := ⟨mkT 67 [(7, (.sl 2 (List.map e_u8_i64 x7.1))), (8, (.int .i64 x7.2)), (9, (.sl 2 (List.map e_u8_i64 x8.1))), (10, (.int .i64 x8.2))], []⟩
def O5_0 (x7 : (List (Int × Int)) × Int) (x8 : (List (Int × Int)) × Int) (y : (Sum (Unit) (Bool))) : GX := match y with
  | .inl y => .st (.exit 0) (E5_0_0 x7 x8)
  | .inr y => .fin (.bool y) []
theorem ok_law08_LedgerZero_l0 (x7 : (List (Int × Int)) × Int) (x8 : (List (Int × Int)) × Int) (y : (Sum (Unit) (Bool))) : ∀ (k : Nat) (v5001_1 : Int), law08_LedgerZero_l0 k x7 x8 v5001_1 = some y → LT Try.prog X5 L5_0 (S5_0 x7 x8 v5001_1) (O5_0 x7 x8 y)
  | 0, v5001_1, h => by cases h
  | k + 1, v5001_1, h => by
    rw [law08_LedgerZero_l0] at h
    by_cases cL0 : ltI v5001_1 (nI x7.1.length) = true
    · rw [if_pos cL0] at h
      by_cases cL1 : inI v5001_1 x7.1.length = true
      · rw [if_pos cL1] at h
        obtain ⟨v5000_1, eL2, h⟩ := Option.bind_eq_some_iff.1 h
        by_cases cL3 : eqI v5000_1.2 0 = true
        · rw [if_pos cL3] at h
          obtain rfl := Option.some.inj h
          show LT _ _ _ _ (.fin (.bool false) [])
          exact LT.done mixed (hs := ⟨[], [], false, [], []⟩) (es := none) [.d true, .n x7.1.length, .row [(.int .u8 v5000_1.1), (.int .i64 v5000_1.2)], .d true] [⟨cL3⟩, ⟨(cells_map (e := e_u8_i64) eL2 2 0 2 (by decide))⟩, ⟨cL1⟩, ⟨(len_map e_u8_i64 x7.1)⟩, ⟨cL0⟩] (by kernel_rfl) (fun s h => by cases h)
        · rw [if_neg cL3] at h
          replace cL3 := eqf cL3
          exact LT.next mixed (hs := ⟨[(7, []), (8, []), (9, []), (10, []), (46, []), (47, []), (48, [])], [], false, [], []⟩) (es := none) [.d true, .n x7.1.length, .row [(.int .u8 v5000_1.1), (.int .i64 v5000_1.2)], .d false] [⟨cL3⟩, ⟨(cells_map (e := e_u8_i64) eL2 2 0 2 (by decide))⟩, ⟨cL1⟩, ⟨(len_map e_u8_i64 x7.1)⟩, ⟨cL0⟩] (by kernel_rfl) (ok_law08_LedgerZero_l0 x7 x8 y k (iadd .i64 v5001_1 1) h)
      · rw [if_neg cL1] at h
        replace cL1 := eqf cL1
        cases h
    · rw [if_neg cL0] at h
      replace cL0 := eqf cL0
      obtain rfl := Option.some.inj h
      show LT _ _ _ _ (.st (.exit 0) (E5_0_0 x7 x8))
      exact LT.done mixed (hs := ⟨[], [], false, [], []⟩) (es := (some ⟨[(7, []), (8, []), (9, []), (10, [])], [], false, [], []⟩)) [.d false] [⟨cL0⟩] (by kernel_rfl) (fun s h => by cases h)
theorem ok_law08_LedgerZero (k : Nat) (x1 : List (Int × Int)) (x2 : List (Int × Int)) (x3 : Int) (r : Bool) (h : law08_LedgerZero k x1 x2 x3 = some r) : Tri Try.prog 5 [(.sl 2 (List.map e_u8_i64 x1)), (.sl 2 (List.map e_u8_i64 x2)), (.int .u8 x3)] [] (.bool r) [] := by
    unfold law08_LedgerZero at h
    obtain ⟨x4, e0, h⟩ := Option.bind_eq_some_iff.1 h
    by_cases c1 : x4 = true
    · rw [if_pos c1] at h
      by_cases c2 : ltI 100 (nI x1.length) = true
      · rw [if_pos c2] at h
        obtain rfl := Option.some.inj h
        exact Tri.of (x := X5) mixed facts5 [.call ⟨true, []⟩ (.bool x4) [], .d false, .n x1.length, .d true, .d true, .d true, .d true, .d true, .d true, .d true, .d true, .d true, .d true, .d true, .d true, .d true] [⟨(rfl : true = true)⟩, ⟨(rfl : true = true)⟩, ⟨(rfl : true = true)⟩, ⟨(rfl : true = true)⟩, ⟨(rfl : true = true)⟩, ⟨(rfl : true = true)⟩, ⟨(rfl : true = true)⟩, ⟨(rfl : true = true)⟩, ⟨(rfl : true = true)⟩, ⟨c2⟩, ⟨c2⟩, ⟨c2⟩, ⟨c2⟩, ⟨(len_map e_u8_i64 x1)⟩, ⟨(nF c1)⟩, ⟨(ok_law08_alive k _ e0)⟩] (by kernel_rfl)
      · rw [if_neg c2] at h
        replace c2 := eqf c2
        by_cases c3 : ltI 100 (nI x2.length) = true
        · rw [if_pos c3] at h
          obtain rfl := Option.some.inj h
          exact Tri.of (x := X5) mixed facts5 [.call ⟨true, []⟩ (.bool x4) [], .d false, .n x1.length, .d false, .d false, .n x2.length, .d false, .d false, .d true, .d true, .d true, .d true, .d true, .d true, .d true, .d true, .d true] [⟨(rfl : true = true)⟩, ⟨(rfl : true = true)⟩, ⟨(rfl : true = true)⟩, ⟨(rfl : true = true)⟩, ⟨(rfl : true = true)⟩, ⟨c3⟩, ⟨c3⟩, ⟨c3⟩, ⟨c3⟩, ⟨c2⟩, ⟨c2⟩, ⟨(len_map e_u8_i64 x2)⟩, ⟨c2⟩, ⟨c2⟩, ⟨(len_map e_u8_i64 x1)⟩, ⟨(nF c1)⟩, ⟨(ok_law08_alive k _ e0)⟩] (by kernel_rfl)
        · rw [if_neg c3] at h
          replace c3 := eqf c3
          obtain ⟨x5, e4, h⟩ := Option.bind_eq_some_iff.1 h
          by_cases c5 : x5 = true
          · rw [if_pos c5] at h
            obtain ⟨x6, e6, h⟩ := Option.bind_eq_some_iff.1 h
            by_cases c7 : x6 = true
            · rw [if_pos c7] at h
              obtain ⟨x7, e8, h⟩ := Option.bind_eq_some_iff.1 h
              obtain ⟨x8, e9, h⟩ := Option.bind_eq_some_iff.1 h
              obtain ⟨x9, e10, h⟩ := Option.bind_eq_some_iff.1 h
              cases x9 with
              | inl x10 =>
                simp only [Sum.elim_inl] at h
                by_cases c12 : eqI x7.2 0 = true
                · rw [if_pos c12] at h
                  by_cases c13 : eqI x8.2 0 = true
                  · rw [if_pos c13] at h
                    obtain ⟨x11, e14, h⟩ := Option.bind_eq_some_iff.1 h
                    obtain rfl := Option.some.inj h
                    exact Tri.of (x := X5) mixed facts5 [.call ⟨true, []⟩ (.bool x4) [], .d false, .n x1.length, .d false, .d false, .n x2.length, .d false, .d false, .d false, .d false, .call ⟨true, []⟩ (.bool x5) [], .d false, .d false, .d false, .d false, .call ⟨true, []⟩ (.bool x6) [], .d false, .d false, .d false, .call ⟨true, []⟩ (.tup [(.sl 2 (List.map e_u8_i64 x7.1)), (.int .i64 x7.2)]) [], .d false, .call ⟨true, []⟩ (.tup [(.sl 2 (List.map e_u8_i64 x8.1)), (.int .i64 x8.2)]) [], .n x7.1.length, .norm 2 ⟨[(7, []), (8, []), (9, []), (10, []), (46, []), (47, []), (48, [])], [], false, [], []⟩, .out (.st .normal (E5_0_0 x7 x8)), .d true, .d true, .d true, .d true, .d true, .d true, .call ⟨true, []⟩ (.bool x11) [], .d true] [⟨c13⟩, ⟨(ok_ref08_Same k x7.1 x8.1 _ e14)⟩, ⟨c13⟩, ⟨c13⟩, ⟨c13⟩, ⟨c12⟩, ⟨c12⟩, ⟨c12⟩, ⟨(LT.block (ok_law08_LedgerZero_l0 x7 x8 _ k 0 e10))⟩, ⟨(len_map e_u8_i64 x7.1)⟩, ⟨(ok_ledger_Add k x7.1 (irem .u8 x3 64) 0 _ e9)⟩, ⟨(rfl : eqI 64 0 = false)⟩, ⟨(ok_ledger_Put k x1 x2 _ e8)⟩, ⟨(nF c7)⟩, ⟨(nF c5)⟩, ⟨(nF c5)⟩, ⟨(ok_law08_keys k x2 _ e6)⟩, ⟨(nF c5)⟩, ⟨(nF c5)⟩, ⟨c3⟩, ⟨c3⟩, ⟨(ok_ref08_Right k x1 _ e4)⟩, ⟨c3⟩, ⟨c3⟩, ⟨c2⟩, ⟨c2⟩, ⟨(len_map e_u8_i64 x2)⟩, ⟨c2⟩, ⟨c2⟩, ⟨(len_map e_u8_i64 x1)⟩, ⟨(nF c1)⟩, ⟨(ok_law08_alive k _ e0)⟩] (by kernel_rfl)
                  · rw [if_neg c13] at h
                    replace c13 := eqf c13
                    obtain rfl := Option.some.inj h
                    exact Tri.of (x := X5) mixed facts5 [.call ⟨true, []⟩ (.bool x4) [], .d false, .n x1.length, .d false, .d false, .n x2.length, .d false, .d false, .d false, .d false, .call ⟨true, []⟩ (.bool x5) [], .d false, .d false, .d false, .d false, .call ⟨true, []⟩ (.bool x6) [], .d false, .d false, .d false, .call ⟨true, []⟩ (.tup [(.sl 2 (List.map e_u8_i64 x7.1)), (.int .i64 x7.2)]) [], .d false, .call ⟨true, []⟩ (.tup [(.sl 2 (List.map e_u8_i64 x8.1)), (.int .i64 x8.2)]) [], .n x7.1.length, .norm 2 ⟨[(7, []), (8, []), (9, []), (10, []), (46, []), (47, []), (48, [])], [], false, [], []⟩, .out (.st .normal (E5_0_0 x7 x8)), .d true, .d true, .d true, .d false, .d false, .d false, .d false] [⟨c13⟩, ⟨c13⟩, ⟨c13⟩, ⟨c13⟩, ⟨c12⟩, ⟨c12⟩, ⟨c12⟩, ⟨(LT.block (ok_law08_LedgerZero_l0 x7 x8 _ k 0 e10))⟩, ⟨(len_map e_u8_i64 x7.1)⟩, ⟨(ok_ledger_Add k x7.1 (irem .u8 x3 64) 0 _ e9)⟩, ⟨(rfl : eqI 64 0 = false)⟩, ⟨(ok_ledger_Put k x1 x2 _ e8)⟩, ⟨(nF c7)⟩, ⟨(nF c5)⟩, ⟨(nF c5)⟩, ⟨(ok_law08_keys k x2 _ e6)⟩, ⟨(nF c5)⟩, ⟨(nF c5)⟩, ⟨c3⟩, ⟨c3⟩, ⟨(ok_ref08_Right k x1 _ e4)⟩, ⟨c3⟩, ⟨c3⟩, ⟨c2⟩, ⟨c2⟩, ⟨(len_map e_u8_i64 x2)⟩, ⟨c2⟩, ⟨c2⟩, ⟨(len_map e_u8_i64 x1)⟩, ⟨(nF c1)⟩, ⟨(ok_law08_alive k _ e0)⟩] (by kernel_rfl)
                · rw [if_neg c12] at h
                  replace c12 := eqf c12
                  obtain rfl := Option.some.inj h
                  exact Tri.of (x := X5) mixed facts5 [.call ⟨true, []⟩ (.bool x4) [], .d false, .n x1.length, .d false, .d false, .n x2.length, .d false, .d false, .d false, .d false, .call ⟨true, []⟩ (.bool x5) [], .d false, .d false, .d false, .d false, .call ⟨true, []⟩ (.bool x6) [], .d false, .d false, .d false, .call ⟨true, []⟩ (.tup [(.sl 2 (List.map e_u8_i64 x7.1)), (.int .i64 x7.2)]) [], .d false, .call ⟨true, []⟩ (.tup [(.sl 2 (List.map e_u8_i64 x8.1)), (.int .i64 x8.2)]) [], .n x7.1.length, .norm 2 ⟨[(7, []), (8, []), (9, []), (10, []), (46, []), (47, []), (48, [])], [], false, [], []⟩, .out (.st .normal (E5_0_0 x7 x8)), .d false, .d false, .d false, .d false, .d false, .d false, .d false] [⟨(rfl : false = false)⟩, ⟨(rfl : false = false)⟩, ⟨(rfl : false = false)⟩, ⟨(rfl : false = false)⟩, ⟨c12⟩, ⟨c12⟩, ⟨c12⟩, ⟨(LT.block (ok_law08_LedgerZero_l0 x7 x8 _ k 0 e10))⟩, ⟨(len_map e_u8_i64 x7.1)⟩, ⟨(ok_ledger_Add k x7.1 (irem .u8 x3 64) 0 _ e9)⟩, ⟨(rfl : eqI 64 0 = false)⟩, ⟨(ok_ledger_Put k x1 x2 _ e8)⟩, ⟨(nF c7)⟩, ⟨(nF c5)⟩, ⟨(nF c5)⟩, ⟨(ok_law08_keys k x2 _ e6)⟩, ⟨(nF c5)⟩, ⟨(nF c5)⟩, ⟨c3⟩, ⟨c3⟩, ⟨(ok_ref08_Right k x1 _ e4)⟩, ⟨c3⟩, ⟨c3⟩, ⟨c2⟩, ⟨c2⟩, ⟨(len_map e_u8_i64 x2)⟩, ⟨c2⟩, ⟨c2⟩, ⟨(len_map e_u8_i64 x1)⟩, ⟨(nF c1)⟩, ⟨(ok_law08_alive k _ e0)⟩] (by kernel_rfl)
              | inr x10 =>
                simp only [Sum.elim_inr] at h
                obtain rfl := Option.some.inj h
                exact Tri.of (x := X5) mixed facts5 [.call ⟨true, []⟩ (.bool x4) [], .d false, .n x1.length, .d false, .d false, .n x2.length, .d false, .d false, .d false, .d false, .call ⟨true, []⟩ (.bool x5) [], .d false, .d false, .d false, .d false, .call ⟨true, []⟩ (.bool x6) [], .d false, .d false, .d false, .call ⟨true, []⟩ (.tup [(.sl 2 (List.map e_u8_i64 x7.1)), (.int .i64 x7.2)]) [], .d false, .call ⟨true, []⟩ (.tup [(.sl 2 (List.map e_u8_i64 x8.1)), (.int .i64 x8.2)]) [], .n x7.1.length, .norm 2 ⟨[(7, []), (8, []), (9, []), (10, []), (46, []), (47, []), (48, [])], [], false, [], []⟩, .out (.fin (.bool x10) [])] [⟨(LT.blockFin (id := 0) (ok_law08_LedgerZero_l0 x7 x8 _ k 0 e10))⟩, ⟨(len_map e_u8_i64 x7.1)⟩, ⟨(ok_ledger_Add k x7.1 (irem .u8 x3 64) 0 _ e9)⟩, ⟨(rfl : eqI 64 0 = false)⟩, ⟨(ok_ledger_Put k x1 x2 _ e8)⟩, ⟨(nF c7)⟩, ⟨(nF c5)⟩, ⟨(nF c5)⟩, ⟨(ok_law08_keys k x2 _ e6)⟩, ⟨(nF c5)⟩, ⟨(nF c5)⟩, ⟨c3⟩, ⟨c3⟩, ⟨(ok_ref08_Right k x1 _ e4)⟩, ⟨c3⟩, ⟨c3⟩, ⟨c2⟩, ⟨c2⟩, ⟨(len_map e_u8_i64 x2)⟩, ⟨c2⟩, ⟨c2⟩, ⟨(len_map e_u8_i64 x1)⟩, ⟨(nF c1)⟩, ⟨(ok_law08_alive k _ e0)⟩] (by kernel_rfl)
            · rw [if_neg c7] at h
              replace c7 := eqf c7
              obtain rfl := Option.some.inj h
              exact Tri.of (x := X5) mixed facts5 [.call ⟨true, []⟩ (.bool x4) [], .d false, .n x1.length, .d false, .d false, .n x2.length, .d false, .d false, .d false, .d false, .call ⟨true, []⟩ (.bool x5) [], .d false, .d false, .d false, .d false, .call ⟨true, []⟩ (.bool x6) [], .d false, .d false, .d true] [⟨(nT c7)⟩, ⟨(nF c5)⟩, ⟨(nF c5)⟩, ⟨(ok_law08_keys k x2 _ e6)⟩, ⟨(nF c5)⟩, ⟨(nF c5)⟩, ⟨c3⟩, ⟨c3⟩, ⟨(ok_ref08_Right k x1 _ e4)⟩, ⟨c3⟩, ⟨c3⟩, ⟨c2⟩, ⟨c2⟩, ⟨(len_map e_u8_i64 x2)⟩, ⟨c2⟩, ⟨c2⟩, ⟨(len_map e_u8_i64 x1)⟩, ⟨(nF c1)⟩, ⟨(ok_law08_alive k _ e0)⟩] (by kernel_rfl)
          · rw [if_neg c5] at h
            replace c5 := eqf c5
            obtain rfl := Option.some.inj h
            exact Tri.of (x := X5) mixed facts5 [.call ⟨true, []⟩ (.bool x4) [], .d false, .n x1.length, .d false, .d false, .n x2.length, .d false, .d false, .d false, .d false, .call ⟨true, []⟩ (.bool x5) [], .d false, .d false, .d true, .d true, .d true, .d true, .d true] [⟨(rfl : true = true)⟩, ⟨(nT c5)⟩, ⟨(nT c5)⟩, ⟨(nT c5)⟩, ⟨(nT c5)⟩, ⟨c3⟩, ⟨c3⟩, ⟨(ok_ref08_Right k x1 _ e4)⟩, ⟨c3⟩, ⟨c3⟩, ⟨c2⟩, ⟨c2⟩, ⟨(len_map e_u8_i64 x2)⟩, ⟨c2⟩, ⟨c2⟩, ⟨(len_map e_u8_i64 x1)⟩, ⟨(nF c1)⟩, ⟨(ok_law08_alive k _ e0)⟩] (by kernel_rfl)
    · rw [if_neg c1] at h
      replace c1 := eqf c1
      obtain rfl := Option.some.inj h
      exact Tri.of (x := X5) mixed facts5 [.call ⟨true, []⟩ (.bool x4) [], .d true] [⟨(nT c1)⟩, ⟨(ok_law08_alive k _ e0)⟩] (by kernel_rfl)
end Go.Ws
