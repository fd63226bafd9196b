/-
  law08_LedgerKeys: what the machine makes of it. (Printed by my own program.)
  Conditions: none.
-/
import Derived.Test.YtlgkcajgkahmgaaZPre
import Derived.Test.YtlgkcajgkahmgaaZPure
import Derived.Test.YtlgkcajgkahmgaaZW10
import Derived.Test.YtlgkcajgkahmgaaZW13
import Derived.Test.YtlgkcajgkahmgaaZW15
import Derived.Test.YtlgkcajgkahmgaaZW16
import Derived.Test.YtlgkcajgkahmgaaZW9
set_option linter.unusedVariables false
set_option linter.unusedSimpArgs false
namespace Go.Ws
open Go.Proofs
set_option linter.unusedSimpArgs false
set_option linter.unusedVariables false
set_option maxRecDepth 1000000
set_option maxHeartbeats 4000000
noncomputable def X4 : Ctx := ⟨Try.f4, [], true⟩
noncomputable def L4_0 : Code := at_ Try.f4 [1, 1, 1, 1, 1, 0, 1, 4, 5]
def S4_0 (x1 : List (Int × Int)) (x2 : Int) (x3 : Int) (x6 : (List (Int × Int)) × Int) (v4001_1 : Int) : St := ⟨mkT 58 [(0, (.sl 2 (List.map e_u8_i64 x1))), (3, (.hp 0 0)), (5, (.sl 2 (List.map e_u8_i64 x6.1))), (38, (.int .u8 v4001_1))], [(.row [(.int .u8 x2), (.int .i64 x3)])]⟩
def E4_0_0 : St := ⟨mkT 58 [], []⟩
def O4_0 (x1 : List (Int × Int)) (x2 : Int) (x3 : Int) (x6 : (List (Int × Int)) × Int) (y : (Sum (Unit) (Bool))) : GX := match y with
  | .inl y => .st (.exit 0) (E4_0_0)
  | .inr y => .fin (.bool y) []
theorem ok_law08_LedgerKeys_l0 (x1 : List (Int × Int)) (x2 : Int) (x3 : Int) (x6 : (List (Int × Int)) × Int) (y : (Sum (Unit) (Bool))) : ∀ (k : Nat) (v4001_1 : Int), law08_LedgerKeys_l0 k x1 x2 x3 x6 v4001_1 = some y → LT Try.prog X4 L4_0 (S4_0 x1 x2 x3 x6 v4001_1) (O4_0 x1 x2 x3 x6 y)
  | 0, v4001_1, h => by cases h
  | k + 1, v4001_1, h => by
    rw [law08_LedgerKeys_l0] at h
    by_cases cL0 : ltI v4001_1 70 = true
    · rw [if_pos cL0] at h
      obtain ⟨v4000_1, eL1, h⟩ := Option.bind_eq_some_iff.1 h
      by_cases cL2 : eqI v4001_1 x2 = true
      · rw [if_pos cL2] at h
        obtain ⟨v4000_2, eL3, h⟩ := Option.bind_eq_some_iff.1 h
        by_cases cL4 : eqI v4000_2 (iadd .i64 v4000_1 x3) = true
        · rw [if_pos cL4] at h
          exact LT.next mixed (hs := ⟨[(0, []), (3, []), (5, []), (38, [])], [⟨.tmp 3, [], none⟩], false, [], []⟩) (es := none) [.d true, .call ⟨true, []⟩ (.int .i64 v4000_1) [], .d true, .call ⟨true, []⟩ (.int .i64 v4000_2) [], .d false] [⟨(nF cL4)⟩, ⟨(ok_ledger_Get k x6.1 v4001_1 _ eL3)⟩, ⟨cL2⟩, ⟨(ok_ledger_Get k x1 v4001_1 _ eL1)⟩, ⟨cL0⟩] (by kernel_rfl) (ok_law08_LedgerKeys_l0 x1 x2 x3 x6 y k (iadd .u8 v4001_1 1) h)
        · rw [if_neg cL4] at h
          replace cL4 := eqf cL4
          obtain rfl := Option.some.inj h
          show LT _ _ _ _ (.fin (.bool false) [])
          exact LT.done mixed (hs := ⟨[], [], false, [], []⟩) (es := none) [.d true, .call ⟨true, []⟩ (.int .i64 v4000_1) [], .d true, .call ⟨true, []⟩ (.int .i64 v4000_2) [], .d true] [⟨(nT cL4)⟩, ⟨(ok_ledger_Get k x6.1 v4001_1 _ eL3)⟩, ⟨cL2⟩, ⟨(ok_ledger_Get k x1 v4001_1 _ eL1)⟩, ⟨cL0⟩] (by kernel_rfl) (fun s h => by cases h)
      · rw [if_neg cL2] at h
        replace cL2 := eqf cL2
        obtain ⟨v4000_2, eL3, h⟩ := Option.bind_eq_some_iff.1 h
        by_cases cL4 : eqI v4000_2 v4000_1 = true
        · rw [if_pos cL4] at h
          exact LT.next mixed (hs := ⟨[(0, []), (3, []), (5, []), (38, [])], [⟨.tmp 3, [], none⟩], false, [], []⟩) (es := none) [.d true, .call ⟨true, []⟩ (.int .i64 v4000_1) [], .d false, .call ⟨true, []⟩ (.int .i64 v4000_2) [], .d false] [⟨(nF cL4)⟩, ⟨(ok_ledger_Get k x6.1 v4001_1 _ eL3)⟩, ⟨cL2⟩, ⟨(ok_ledger_Get k x1 v4001_1 _ eL1)⟩, ⟨cL0⟩] (by kernel_rfl) (ok_law08_LedgerKeys_l0 x1 x2 x3 x6 y k (iadd .u8 v4001_1 1) h)
        · rw [if_neg cL4] at h
          replace cL4 := eqf cL4
          obtain rfl := Option.some.inj h
          show LT _ _ _ _ (.fin (.bool false) [])
          exact LT.done mixed (hs := ⟨[], [], false, [], []⟩) (es := none) [.d true, .call ⟨true, []⟩ (.int .i64 v4000_1) [], .d false, .call ⟨true, []⟩ (.int .i64 v4000_2) [], .d true] [⟨(nT cL4)⟩, ⟨(ok_ledger_Get k x6.1 v4001_1 _ eL3)⟩, ⟨cL2⟩, ⟨(ok_ledger_Get k x1 v4001_1 _ eL1)⟩, ⟨cL0⟩] (by kernel_rfl) (fun s h => by cases h)
    · rw [if_neg cL0] at h
      replace cL0 := eqf cL0
      obtain rfl := Option.some.inj h
      show LT _ _ _ _ (.st (.exit 0) (E4_0_0))
      exact LT.done mixed (hs := ⟨[], [], false, [], []⟩) (es := (some ⟨[], [], false, [], []⟩)) [.d false] [⟨cL0⟩] (by kernel_rfl) (fun s h => by cases h)
theorem ok_law08_LedgerKeys (k : Nat) (x1 : List (Int × Int)) (x2 : Int) (x3 : Int) (r : Bool) (h : law08_LedgerKeys k x1 x2 x3 = some r) : Tri Try.prog 4 [(.sl 2 (List.map e_u8_i64 x1)), (.agg [(.int .u8 x2), (.int .i64 x3)])] [] (.bool r) [] := by
    unfold law08_LedgerKeys at h
    obtain ⟨x4, e0, h⟩ := Option.bind_eq_some_iff.1 h
    by_cases c1 : x4 = true
    · rw [if_pos c1] at h
      by_cases c2 : ltI 100 (nI x1.length) = true
      · rw [if_pos c2] at h
        obtain rfl := Option.some.inj h
        exact Tri.of (x := X4) mixed facts4 [.call ⟨true, []⟩ (.bool x4) [], .d false, .n x1.length, .d true, .d true, .d true, .d true, .d true] [⟨(rfl : true = true)⟩, ⟨c2⟩, ⟨c2⟩, ⟨c2⟩, ⟨c2⟩, ⟨(len_map e_u8_i64 x1)⟩, ⟨(nF c1)⟩, ⟨(ok_law08_alive k _ e0)⟩] (by kernel_rfl)
      · rw [if_neg c2] at h
        replace c2 := eqf c2
        obtain ⟨x5, e3, h⟩ := Option.bind_eq_some_iff.1 h
        by_cases c4 : x5 = true
        · rw [if_pos c4] at h
          obtain ⟨x6, e5, h⟩ := Option.bind_eq_some_iff.1 h
          by_cases c6 : eqI x6.2 0 = true
          · rw [if_pos c6] at h
            obtain ⟨x7, e7, h⟩ := Option.bind_eq_some_iff.1 h
            cases x7 with
            | inl x8 =>
              simp only [Sum.elim_inl] at h
              obtain rfl := Option.some.inj h
              exact Tri.of (x := X4) mixed facts4 [.call ⟨true, []⟩ (.bool x4) [], .d false, .n x1.length, .d false, .d false, .call ⟨true, []⟩ (.bool x5) [], .d false, .d false, .d false, .call ⟨true, []⟩ (.tup [(.sl 2 (List.map e_u8_i64 x6.1)), (.int .i64 x6.2)]) [], .d false, .norm 2 ⟨[(0, []), (3, []), (5, []), (38, [])], [⟨.tmp 3, [], none⟩], false, [], []⟩, .out (.st .normal (E4_0_0))] [⟨(LT.block (ok_law08_LedgerKeys_l0 x1 x2 x3 x6 _ k 0 e7))⟩, ⟨(nF c6)⟩, ⟨(ok_ledger_Add k x1 x2 x3 _ e5)⟩, ⟨(nF c4)⟩, ⟨c2⟩, ⟨c2⟩, ⟨(ok_ref08_Right k x1 _ e3)⟩, ⟨c2⟩, ⟨c2⟩, ⟨(len_map e_u8_i64 x1)⟩, ⟨(nF c1)⟩, ⟨(ok_law08_alive k _ e0)⟩] (by kernel_rfl)
            | inr x8 =>
              simp only [Sum.elim_inr] at h
              obtain rfl := Option.some.inj h
              exact Tri.of (x := X4) mixed facts4 [.call ⟨true, []⟩ (.bool x4) [], .d false, .n x1.length, .d false, .d false, .call ⟨true, []⟩ (.bool x5) [], .d false, .d false, .d false, .call ⟨true, []⟩ (.tup [(.sl 2 (List.map e_u8_i64 x6.1)), (.int .i64 x6.2)]) [], .d false, .norm 2 ⟨[(0, []), (3, []), (5, []), (38, [])], [⟨.tmp 3, [], none⟩], false, [], []⟩, .out (.fin (.bool x8) [])] [⟨(LT.blockFin (id := 0) (ok_law08_LedgerKeys_l0 x1 x2 x3 x6 _ k 0 e7))⟩, ⟨(nF c6)⟩, ⟨(ok_ledger_Add k x1 x2 x3 _ e5)⟩, ⟨(nF c4)⟩, ⟨c2⟩, ⟨c2⟩, ⟨(ok_ref08_Right k x1 _ e3)⟩, ⟨c2⟩, ⟨c2⟩, ⟨(len_map e_u8_i64 x1)⟩, ⟨(nF c1)⟩, ⟨(ok_law08_alive k _ e0)⟩] (by kernel_rfl)
          · rw [if_neg c6] at h
            replace c6 := eqf c6
            by_cases c7 : ltI x2 64 = true
            · rw [if_pos c7] at h
              obtain rfl := Option.some.inj h
              exact Tri.of (x := X4) mixed facts4 [.call ⟨true, []⟩ (.bool x4) [], .d false, .n x1.length, .d false, .d false, .call ⟨true, []⟩ (.bool x5) [], .d false, .d false, .d false, .call ⟨true, []⟩ (.tup [(.sl 2 (List.map e_u8_i64 x6.1)), (.int .i64 x6.2)]) [], .d true, .d false, .d false, .d false, .d false] [⟨(nF c7)⟩, ⟨(nF c7)⟩, ⟨(nF c7)⟩, ⟨(nF c7)⟩, ⟨(nT c6)⟩, ⟨(ok_ledger_Add k x1 x2 x3 _ e5)⟩, ⟨(nF c4)⟩, ⟨c2⟩, ⟨c2⟩, ⟨(ok_ref08_Right k x1 _ e3)⟩, ⟨c2⟩, ⟨c2⟩, ⟨(len_map e_u8_i64 x1)⟩, ⟨(nF c1)⟩, ⟨(ok_law08_alive k _ e0)⟩] (by kernel_rfl)
            · rw [if_neg c7] at h
              replace c7 := eqf c7
              obtain ⟨x7, e8, h⟩ := Option.bind_eq_some_iff.1 h
              obtain rfl := Option.some.inj h
              exact Tri.of (x := X4) mixed facts4 [.call ⟨true, []⟩ (.bool x4) [], .d false, .n x1.length, .d false, .d false, .call ⟨true, []⟩ (.bool x5) [], .d false, .d false, .d false, .call ⟨true, []⟩ (.tup [(.sl 2 (List.map e_u8_i64 x6.1)), (.int .i64 x6.2)]) [], .d true, .d true, .d true, .d true, .call ⟨true, []⟩ (.bool x7) [], .d true] [⟨(nT c7)⟩, ⟨(ok_ref08_Same k x1 x6.1 _ e8)⟩, ⟨(nT c7)⟩, ⟨(nT c7)⟩, ⟨(nT c7)⟩, ⟨(nT c6)⟩, ⟨(ok_ledger_Add k x1 x2 x3 _ e5)⟩, ⟨(nF c4)⟩, ⟨c2⟩, ⟨c2⟩, ⟨(ok_ref08_Right k x1 _ e3)⟩, ⟨c2⟩, ⟨c2⟩, ⟨(len_map e_u8_i64 x1)⟩, ⟨(nF c1)⟩, ⟨(ok_law08_alive k _ e0)⟩] (by kernel_rfl)
        · rw [if_neg c4] at h
          replace c4 := eqf c4
          obtain rfl := Option.some.inj h
          exact Tri.of (x := X4) mixed facts4 [.call ⟨true, []⟩ (.bool x4) [], .d false, .n x1.length, .d false, .d false, .call ⟨true, []⟩ (.bool x5) [], .d false, .d false, .d true] [⟨(nT c4)⟩, ⟨c2⟩, ⟨c2⟩, ⟨(ok_ref08_Right k x1 _ e3)⟩, ⟨c2⟩, ⟨c2⟩, ⟨(len_map e_u8_i64 x1)⟩, ⟨(nF c1)⟩, ⟨(ok_law08_alive k _ e0)⟩] (by kernel_rfl)
    · rw [if_neg c1] at h
      replace c1 := eqf c1
      obtain rfl := Option.some.inj h
      exact Tri.of (x := X4) mixed facts4 [.call ⟨true, []⟩ (.bool x4) [], .d true] [⟨(nT c1)⟩, ⟨(ok_law08_alive k _ e0)⟩] (by kernel_rfl)
end Go.Ws
