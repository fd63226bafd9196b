/-
  ledger_Less: what the machine makes of it. (Printed by my own program.)
  Conditions: none.
-/
import Derived.Test.YtlgkcajgkahmgaaZPre
import Derived.Test.YtlgkcajgkahmgaaZPure
import Derived.Test.YtlgkcajgkahmgaaZW14
import Derived.Test.YtlgkcajgkahmgaaZW24
set_option linter.unusedVariables false
set_option linter.unusedSimpArgs false
namespace Go.Ws
open Go.Proofs
set_option linter.unusedSimpArgs false
set_option linter.unusedVariables false
set_option maxRecDepth 1000000
set_option maxHeartbeats 4000000
noncomputable def X20 : Ctx := ⟨Try.f20, [], true⟩
noncomputable def L20_0 : Code := at_ Try.f20 [1, 1, 1, 0, 1, 4, 5]
def S20_0 (x1 : List (Int × Int)) (v20001_1 : Int) (v20001_2 : List (Int × Int)) : St := ⟨mkT 28 [(4, (.ref 2 0 0 0 v20001_2.length .virt)), (12, (.int .i64 (nI x1.length))), (13, (.int .i64 v20001_1))], [(.arr 2 (List.map e_u8_i64 v20001_2) 0 0 false)]⟩
def E20_0_0 (v20002_1 : List (Int × Int)) : St := ⟨mkT 28 [(4, (.ref 2 0 0 0 v20002_1.length .virt))], [(.arr 2 (List.map e_u8_i64 v20002_1) 0 0 false)]⟩
def O20_0 (x1 : List (Int × Int)) (y : ((List (Int × Int)))) : GX := .st (.exit 0) (E20_0_0 y)
theorem ok_ledger_Less_l0 (x1 : List (Int × Int)) (y : ((List (Int × Int)))) : ∀ (k : Nat) (v20001_1 : Int) (v20001_2 : List (Int × Int)), ledger_Less_l0 k x1 v20001_1 v20001_2 = some y → LT Try.prog X20 L20_0 (S20_0 x1 v20001_1 v20001_2) (O20_0 x1 y)
  | 0, v20001_1, v20001_2, h => by cases h
  | k + 1, v20001_1, v20001_2, h => by
    rw [ledger_Less_l0] at h
    by_cases cL0 : ltI v20001_1 (nI x1.length) = true
    · rw [if_pos cL0] at h
      by_cases cL1 : inI v20001_1 v20001_2.length = true
      · rw [if_pos cL1] at h
        obtain ⟨v20000_1, eL2, h⟩ := Option.bind_eq_some_iff.1 h
        exact LT.next mixed (hs := ⟨[(4, []), (12, []), (13, [])], [⟨.tmp 4, [], some 2⟩], false, [], []⟩) (es := none) [.d true, .row [(.int .i64 v20000_1.2)], .rows (List.map e_u8_i64 (List.set v20001_2 (tN v20001_1) (v20000_1.1, ineg .i64 v20000_1.2))), .n ((List.set v20001_2 (tN v20001_1) (v20000_1.1, ineg .i64 v20000_1.2)).length), .rows (List.map e_u8_i64 (List.set v20001_2 (tN v20001_1) (v20000_1.1, ineg .i64 v20000_1.2)))] [⟨(take_all e_u8_i64 (l := (List.set v20001_2 (tN v20001_1) (v20000_1.1, ineg .i64 v20000_1.2))) (n := v20001_2.length) (by simp : v20001_2.length = (List.set v20001_2 (tN v20001_1) (v20000_1.1, ineg .i64 v20000_1.2)).length))⟩, ⟨((by simp : v20001_2.length = List.length (α := Int × Int) (List.set v20001_2 (tN v20001_1) (v20000_1.1, ineg .i64 v20000_1.2))) : v20001_2.length = (List.set v20001_2 (tN v20001_1) (v20000_1.1, ineg .i64 v20000_1.2)).length)⟩, ⟨(zle v20001_2.length)⟩, ⟨(store_map (e := e_u8_i64) eL2 1 [(.int .i64 (ineg .i64 v20000_1.2))] (v20000_1.1, ineg .i64 v20000_1.2) rfl)⟩, ⟨cL1⟩, ⟨(cells_map (e := e_u8_i64) eL2 2 1 1 (by decide))⟩, ⟨cL1⟩, ⟨cL0⟩] (by kernel_rfl) (ok_ledger_Less_l0 x1 y k (iadd .i64 v20001_1 1) (List.set v20001_2 (tN v20001_1) (v20000_1.1, ineg .i64 v20000_1.2)) h)
      · rw [if_neg cL1] at h
        replace cL1 := eqf cL1
        cases h
    · rw [if_neg cL0] at h
      replace cL0 := eqf cL0
      obtain rfl := Option.some.inj h
      show LT _ _ _ _ (.st (.exit 0) (E20_0_0 v20001_2))
      exact LT.done mixed (hs := ⟨[], [], false, [], []⟩) (es := (some ⟨[(4, [])], [⟨.tmp 4, [], none⟩], false, [], []⟩)) [.d false] [⟨cL0⟩] (by kernel_rfl) (fun s h => by cases h)
theorem ok_ledger_Less (k : Nat) (x1 : List (Int × Int)) (r : (List (Int × Int)) × Int) (h : ledger_Less k x1 = some r) : Tri Try.prog 20 [(.sl 2 (List.map e_u8_i64 x1))] [] (.tup [(.sl 2 (List.map e_u8_i64 r.1)), (.int .i64 r.2)]) [] := by
    unfold ledger_Less at h
    obtain ⟨x2, e0, h⟩ := Option.bind_eq_some_iff.1 h
    by_cases c1 : x2 = true
    · rw [if_pos c1] at h
      obtain ⟨x3, e2, h⟩ := Option.bind_eq_some_iff.1 h
      obtain ⟨x5, e3, h⟩ := Option.bind_eq_some_iff.1 h
      obtain rfl := Option.some.inj h
      exact Tri.of (x := X20) mixed facts20 [.call ⟨true, []⟩ (.bool x2) [], .d false, .call ⟨true, []⟩ (.ref 2 0 0 0 x1.length .virt) [(.arr 2 (List.map e_u8_i64 x1) 0 0 false)], .norm 2 ⟨[(4, []), (12, []), (13, [])], [⟨.tmp 4, [], some 2⟩], false, [], []⟩, .n x1.length, .rows (List.map e_u8_i64 x1), .out (.st .normal (E20_0_0 x5)), .rows (List.map e_u8_i64 x5)] [⟨(part_all e_u8_i64 (l := x5) (n := x5.length) rfl)⟩, ⟨(le_map e_u8_i64 (Nat.le_refl x5.length) : 0 + x5.length ≤ (List.map e_u8_i64 x5).length)⟩, ⟨(LT.block (ok_ledger_Less_l0 x1 _ k 0 x1 e3))⟩, ⟨(take_all e_u8_i64 (l := x1) (n := x1.length) rfl)⟩, ⟨(rfl : x1.length = x1.length)⟩, ⟨(zle x1.length)⟩, ⟨(ok_slices_Clone k x1 _ e2)⟩, ⟨(nF c1)⟩, ⟨(ok_ledger_Right k x1 _ e0)⟩] (by kernel_rfl)
    · rw [if_neg c1] at h
      replace c1 := eqf c1
      obtain rfl := Option.some.inj h
      exact Tri.of (x := X20) mixed facts20 [.call ⟨true, []⟩ (.bool x2) [], .d true, .norm 0 ⟨[(2, [(0, 2)]), (3, [])], [], false, [], []⟩] [⟨(nT c1)⟩, ⟨(ok_ledger_Right k x1 _ e0)⟩] (by kernel_rfl)
end Go.Ws
