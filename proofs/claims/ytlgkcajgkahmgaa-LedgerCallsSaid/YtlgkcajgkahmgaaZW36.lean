/-
  ref08_sum: what the machine makes of it. (Printed by my own program.)
  Conditions: none.
-/
import Derived.Test.YtlgkcajgkahmgaaZPre
import Derived.Test.YtlgkcajgkahmgaaZPure
set_option linter.unusedVariables false
set_option linter.unusedSimpArgs false
namespace Go.Ws
open Go.Proofs
set_option linter.unusedSimpArgs false
set_option linter.unusedVariables false
set_option maxRecDepth 1000000
set_option maxHeartbeats 4000000
noncomputable def X36 : Ctx := ⟨Try.f36, [], true⟩
noncomputable def L36_0 : Code := at_ Try.f36 [1, 1, 0, 1, 4, 5]
def S36_0 (x1 : List (Int × Int)) (x2 : Int) (v36001_1 : Int) (v36001_2 : Int) : St := ⟨mkT 28 [(0, (.sl 2 (List.map e_u8_i64 x1))), (1, (.int .u8 x2)), (5, (.int .i64 v36001_1)), (6, (.int .i64 v36001_2))], []⟩
def E36_0_0 (v36002_1 : Int) : St := ⟨mkT 28 [(5, (.int .i64 v36002_1))], []⟩
def O36_0 (x1 : List (Int × Int)) (x2 : Int) (y : (Int)) : GX := .st (.exit 0) (E36_0_0 y)
theorem ok_ref08_sum_l0 (x1 : List (Int × Int)) (x2 : Int) (y : (Int)) : ∀ (k : Nat) (v36001_1 : Int) (v36001_2 : Int), ref08_sum_l0 k x1 x2 v36001_1 v36001_2 = some y → LT Try.prog X36 L36_0 (S36_0 x1 x2 v36001_1 v36001_2) (O36_0 x1 x2 y)
  | 0, v36001_1, v36001_2, h => by cases h
  | k + 1, v36001_1, v36001_2, h => by
    rw [ref08_sum_l0] at h
    by_cases cL0 : ltI v36001_2 (nI x1.length) = true
    · rw [if_pos cL0] at h
      by_cases cL1 : inI v36001_2 x1.length = true
      · rw [if_pos cL1] at h
        obtain ⟨v36000_1, eL2, h⟩ := Option.bind_eq_some_iff.1 h
        by_cases cL3 : eqI v36000_1.1 x2 = true
        · rw [if_pos cL3] at h
          exact LT.next mixed (hs := ⟨[(0, []), (1, []), (5, []), (6, [])], [], false, [], []⟩) (es := none) [.n x1.length, .d true, .n x1.length, .row [(.int .u8 v36000_1.1)], .d true, .n x1.length, .row [(.int .i64 v36000_1.2)]] [⟨(cells_map (e := e_u8_i64) eL2 2 1 1 (by decide))⟩, ⟨cL1⟩, ⟨(len_map e_u8_i64 x1)⟩, ⟨cL3⟩, ⟨(cells_map (e := e_u8_i64) eL2 2 0 1 (by decide))⟩, ⟨cL1⟩, ⟨(len_map e_u8_i64 x1)⟩, ⟨cL0⟩, ⟨(len_map e_u8_i64 x1)⟩] (by kernel_rfl) (ok_ref08_sum_l0 x1 x2 y k (iadd .i64 v36001_1 v36000_1.2) (iadd .i64 v36001_2 1) h)
        · rw [if_neg cL3] at h
          replace cL3 := eqf cL3
          exact LT.next mixed (hs := ⟨[(0, []), (1, []), (5, []), (6, [])], [], false, [], []⟩) (es := none) [.n x1.length, .d true, .n x1.length, .row [(.int .u8 v36000_1.1)], .d false] [⟨cL3⟩, ⟨(cells_map (e := e_u8_i64) eL2 2 0 1 (by decide))⟩, ⟨cL1⟩, ⟨(len_map e_u8_i64 x1)⟩, ⟨cL0⟩, ⟨(len_map e_u8_i64 x1)⟩] (by kernel_rfl) (ok_ref08_sum_l0 x1 x2 y k v36001_1 (iadd .i64 v36001_2 1) h)
      · rw [if_neg cL1] at h
        replace cL1 := eqf cL1
        cases h
    · rw [if_neg cL0] at h
      replace cL0 := eqf cL0
      obtain rfl := Option.some.inj h
      show LT _ _ _ _ (.st (.exit 0) (E36_0_0 v36001_1))
      exact LT.done mixed (hs := ⟨[], [], false, [], []⟩) (es := (some ⟨[(5, [])], [], false, [], []⟩)) [.n x1.length, .d false] [⟨cL0⟩, ⟨(len_map e_u8_i64 x1)⟩] (by kernel_rfl) (fun s h => by cases h)
theorem ok_ref08_sum (k : Nat) (x1 : List (Int × Int)) (x2 : Int) (r : Int) (h : ref08_sum k x1 x2 = some r) : Tri Try.prog 36 [(.sl 2 (List.map e_u8_i64 x1)), (.int .u8 x2)] [] (.int .i64 r) [] := by
    unfold ref08_sum at h
    obtain ⟨x4, e0, h⟩ := Option.bind_eq_some_iff.1 h
    obtain rfl := Option.some.inj h
    exact Tri.of (x := X36) mixed facts36 [.norm 2 ⟨[(0, []), (1, []), (5, []), (6, [])], [], false, [], []⟩, .out (.st .normal (E36_0_0 x4))] [⟨(LT.block (ok_ref08_sum_l0 x1 x2 _ k 0 0 e0))⟩] (by kernel_rfl)
end Go.Ws
