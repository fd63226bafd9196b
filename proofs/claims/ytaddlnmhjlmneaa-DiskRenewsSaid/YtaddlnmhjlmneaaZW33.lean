/-
  ref03_Sum: what the machine makes of it. (Printed by my own program.)
  Conditions: none.
-/
import Derived.Test.YtaddlnmhjlmneaaZPre
import Derived.Test.YtaddlnmhjlmneaaZPure
set_option linter.unusedVariables false
set_option linter.unusedSimpArgs false
namespace Go.Ws
open Go.Proofs
set_option linter.unusedSimpArgs false
set_option linter.unusedVariables false
set_option maxRecDepth 1000000
set_option maxHeartbeats 4000000
noncomputable def X33 : Ctx := ⟨Try.f33, [], true⟩
noncomputable def L33_0 : Code := at_ Try.f33 [1, 1, 0, 1, 4, 5]
def S33_0 (x1 : List Int) (v33001_1 : Int) (v33001_2 : Int) (v33001_3 : Int) : St := ⟨mkT 28 [(0, (.sl 1 (List.map e_u8 x1))), (3, (.int .u32 v33001_1)), (4, (.int .u32 v33001_2)), (5, (.int .i64 v33001_3))], []⟩
def E33_0_0 (v33002_1 : Int) (v33002_2 : Int) : St := ⟨mkT 28 [(3, (.int .u32 v33002_1)), (4, (.int .u32 v33002_2))], []⟩
def O33_0 (x1 : List Int) (y : (Int × Int)) : GX := .st (.exit 0) (E33_0_0 y.1 y.2)
theorem ok_ref03_Sum_l0 (x1 : List Int) (y : (Int × Int)) : ∀ (k : Nat) (v33001_1 : Int) (v33001_2 : Int) (v33001_3 : Int), ref03_Sum_l0 k x1 v33001_1 v33001_2 v33001_3 = some y → LT Try.prog X33 L33_0 (S33_0 x1 v33001_1 v33001_2 v33001_3) (O33_0 x1 y)
  | 0, v33001_1, v33001_2, v33001_3, h => by cases h
  | k + 1, v33001_1, v33001_2, v33001_3, h => by
    rw [ref03_Sum_l0] at h
    by_cases cL0 : ltI v33001_3 (nI x1.length) = true
    · rw [if_pos cL0] at h
      by_cases cL1 : inI v33001_3 x1.length = true
      · rw [if_pos cL1] at h
        obtain ⟨v33000_1, eL2, h⟩ := Option.bind_eq_some_iff.1 h
        exact LT.next mixed (hs := ⟨[(0, []), (3, []), (4, []), (5, [])], [], false, [], []⟩) (es := none) [.n x1.length, .d true, .n x1.length, .row [(.int .u8 v33000_1)], .d false, .d false] [⟨(rfl : eqI 65521 0 = false)⟩, ⟨(rfl : eqI 65521 0 = false)⟩, ⟨(cells_map (e := e_u8) eL2 1 0 1 (by decide))⟩, ⟨cL1⟩, ⟨(len_map e_u8 x1)⟩, ⟨cL0⟩, ⟨(len_map e_u8 x1)⟩] (by kernel_rfl) (ok_ref03_Sum_l0 x1 y k (irem .u32 (iadd .u32 v33001_1 (conv .u32 v33000_1)) 65521) (irem .u32 (iadd .u32 v33001_2 (irem .u32 (iadd .u32 v33001_1 (conv .u32 v33000_1)) 65521)) 65521) (iadd .i64 v33001_3 1) h)
      · rw [if_neg cL1] at h
        replace cL1 := eqf cL1
        cases h
    · rw [if_neg cL0] at h
      replace cL0 := eqf cL0
      obtain rfl := Option.some.inj h
      show LT _ _ _ _ (.st (.exit 0) (E33_0_0 v33001_1 v33001_2))
      exact LT.done mixed (hs := ⟨[], [], false, [], []⟩) (es := (some ⟨[(3, []), (4, [])], [], false, [], []⟩)) [.n x1.length, .d false] [⟨cL0⟩, ⟨(len_map e_u8 x1)⟩] (by kernel_rfl) (fun s h => by cases h)
theorem ok_ref03_Sum (k : Nat) (x1 : List Int) (r : Int) (h : ref03_Sum k x1 = some r) : Tri Try.prog 33 [(.sl 1 (List.map e_u8 x1))] [] (.int .u32 r) [] := by
    unfold ref03_Sum at h
    obtain ⟨x3, e0, h⟩ := Option.bind_eq_some_iff.1 h
    obtain rfl := Option.some.inj h
    exact Tri.of (x := X33) mixed facts33 [.norm 2 ⟨[(0, []), (3, []), (4, []), (5, [])], [], false, [], []⟩, .out (.st .normal (E33_0_0 x3.1 x3.2))] [⟨(LT.block (ok_ref03_Sum_l0 x1 _ k 1 0 0 e0))⟩] (by kernel_rfl)
end Go.Ws
