/-
  party_Right: what the machine makes of it. (Printed by my own program.)
  Conditions: none.
-/
import Derived.Test.YtbgikhebodociaaZPre
import Derived.Test.YtbgikhebodociaaZPure
import Derived.Test.YtbgikhebodociaaZW17
set_option linter.unusedVariables false
set_option linter.unusedSimpArgs false
namespace Go.Ws
open Go.Proofs
set_option linter.unusedSimpArgs false
set_option linter.unusedVariables false
set_option maxRecDepth 1000000
set_option maxHeartbeats 4000000
noncomputable def X13 : Ctx := ⟨Try.f13, [], true⟩
noncomputable def L13_0 : Code := at_ Try.f13 [1, 1, 1, 0, 1, 4, 5]
def S13_0 (x1 : Int) (x2 : List (Int × ByteArray)) (v13001_1 : Int) : St := ⟨mkT 59 [(3, (.int .i64 (isub .i64 x1 (nI x2.length)))), (39, (.sl 2 (List.map e_i64_s x2))), (40, (.int .i64 (nI x2.length))), (41, (.int .i64 v13001_1))], []⟩
def E13_0_0 : St := ⟨mkT 59 [], []⟩
def O13_0 (x1 : Int) (x2 : List (Int × ByteArray)) (y : (Sum (Unit) (Bool))) : GX := match y with
  | .inl y => .st (.exit 0) (E13_0_0)
  | .inr y => .fin (.bool y) []
theorem ok_party_Right_l0 (x1 : Int) (x2 : List (Int × ByteArray)) (y : (Sum (Unit) (Bool))) : ∀ (k : Nat) (v13001_1 : Int), party_Right_l0 k x1 x2 v13001_1 = some y → LT Try.prog X13 L13_0 (S13_0 x1 x2 v13001_1) (O13_0 x1 x2 y)
  | 0, v13001_1, h => by cases h
  | k + 1, v13001_1, h => by
    rw [party_Right_l0] at h
    by_cases cL0 : ltI v13001_1 (nI x2.length) = true
    · rw [if_pos cL0] at h
      by_cases cL1 : inI v13001_1 x2.length = true
      · rw [if_pos cL1] at h
        obtain ⟨v13000_1, eL2, h⟩ := Option.bind_eq_some_iff.1 h
        by_cases cL3 : eqI v13000_1.1 (iadd .i64 (isub .i64 x1 (nI x2.length)) v13001_1) = true
        · rw [if_pos cL3] at h
          by_cases cL4 : ltI 500 (ssz v13000_1.2) = true
          · rw [if_pos cL4] at h
            obtain rfl := Option.some.inj h
            show LT _ _ _ _ (.fin (.bool false) [])
            exact LT.done mixed (hs := ⟨[], [], false, [], []⟩) (es := none) [.d true, .n x2.length, .row [(.int .i64 v13000_1.1), (.str v13000_1.2)], .d false, .d false, .d false, .d false, .d false, .d true] [⟨cL4⟩, ⟨(nF cL3)⟩, ⟨(nF cL3)⟩, ⟨(nF cL3)⟩, ⟨(nF cL3)⟩, ⟨(nF cL3)⟩, ⟨(cells_map (e := e_i64_s) eL2 2 0 2 (by decide))⟩, ⟨cL1⟩, ⟨(len_map e_i64_s x2)⟩, ⟨cL0⟩] (by kernel_rfl) (fun s h => by cases h)
          · rw [if_neg cL4] at h
            replace cL4 := eqf cL4
            exact LT.next mixed (hs := ⟨[(3, []), (39, []), (40, []), (41, [])], [], false, [], []⟩) (es := none) [.d true, .n x2.length, .row [(.int .i64 v13000_1.1), (.str v13000_1.2)], .d false, .d false, .d false, .d false, .d false, .d false] [⟨cL4⟩, ⟨(nF cL3)⟩, ⟨(nF cL3)⟩, ⟨(nF cL3)⟩, ⟨(nF cL3)⟩, ⟨(nF cL3)⟩, ⟨(cells_map (e := e_i64_s) eL2 2 0 2 (by decide))⟩, ⟨cL1⟩, ⟨(len_map e_i64_s x2)⟩, ⟨cL0⟩] (by kernel_rfl) (ok_party_Right_l0 x1 x2 y k (iadd .i64 v13001_1 1) h)
        · rw [if_neg cL3] at h
          replace cL3 := eqf cL3
          obtain rfl := Option.some.inj h
          show LT _ _ _ _ (.fin (.bool false) [])
          exact LT.done mixed (hs := ⟨[], [], false, [], []⟩) (es := none) [.d true, .n x2.length, .row [(.int .i64 v13000_1.1), (.str v13000_1.2)], .d true, .d true, .d true, .d true, .d true, .d true] [⟨(rfl : true = true)⟩, ⟨(nT cL3)⟩, ⟨(nT cL3)⟩, ⟨(nT cL3)⟩, ⟨(nT cL3)⟩, ⟨(nT cL3)⟩, ⟨(cells_map (e := e_i64_s) eL2 2 0 2 (by decide))⟩, ⟨cL1⟩, ⟨(len_map e_i64_s x2)⟩, ⟨cL0⟩] (by kernel_rfl) (fun s h => by cases h)
      · rw [if_neg cL1] at h
        replace cL1 := eqf cL1
        cases h
    · rw [if_neg cL0] at h
      replace cL0 := eqf cL0
      obtain rfl := Option.some.inj h
      show LT _ _ _ _ (.st (.exit 0) (E13_0_0))
      exact LT.done mixed (hs := ⟨[], [], false, [], []⟩) (es := (some ⟨[], [], false, [], []⟩)) [.d false] [⟨cL0⟩] (by kernel_rfl) (fun s h => by cases h)
theorem ok_party_Right (k : Nat) (x1 : Int) (x2 : List (Int × ByteArray)) (x3 : Int) (r : Bool) (h : party_Right k x1 x2 x3 = some r) : Tri Try.prog 13 [(.agg [(.int .i64 x1), (.sl 2 (List.map e_i64_s x2)), (.int .i64 x3)])] [] (.bool r) [] := by
    unfold party_Right at h
    by_cases c0 : ltI x3 1 = true
    · rw [if_pos c0] at h
      obtain rfl := Option.some.inj h
      exact Tri.of (x := X13) mixed facts13 [.n x2.length, .d true, .d true, .d true, .d true, .d true, .d true, .d true, .d true, .d true, .d true, .d true, .d true, .d true, .d true, .d true, .d true, .d true, .d true, .d true, .d true] [⟨(rfl : true = true)⟩, ⟨(rfl : true = true)⟩, ⟨(rfl : true = true)⟩, ⟨(rfl : true = true)⟩, ⟨(rfl : true = true)⟩, ⟨(rfl : true = true)⟩, ⟨(rfl : true = true)⟩, ⟨(rfl : true = true)⟩, ⟨(rfl : true = true)⟩, ⟨(rfl : true = true)⟩, ⟨(rfl : true = true)⟩, ⟨(rfl : true = true)⟩, ⟨(rfl : true = true)⟩, ⟨(rfl : true = true)⟩, ⟨(rfl : true = true)⟩, ⟨(rfl : true = true)⟩, ⟨c0⟩, ⟨c0⟩, ⟨c0⟩, ⟨c0⟩, ⟨(len_map e_i64_s x2)⟩] (by kernel_rfl)
    · rw [if_neg c0] at h
      replace c0 := eqf c0
      by_cases c1 : ltI 100 x3 = true
      · rw [if_pos c1] at h
        obtain rfl := Option.some.inj h
        exact Tri.of (x := X13) mixed facts13 [.n x2.length, .d false, .d false, .d false, .d false, .d true, .d true, .d true, .d true, .d true, .d true, .d true, .d true, .d true, .d true, .d true, .d true, .d true, .d true, .d true, .d true] [⟨(rfl : true = true)⟩, ⟨(rfl : true = true)⟩, ⟨(rfl : true = true)⟩, ⟨(rfl : true = true)⟩, ⟨(rfl : true = true)⟩, ⟨(rfl : true = true)⟩, ⟨(rfl : true = true)⟩, ⟨(rfl : true = true)⟩, ⟨(rfl : true = true)⟩, ⟨(rfl : true = true)⟩, ⟨(rfl : true = true)⟩, ⟨c1⟩, ⟨c1⟩, ⟨c1⟩, ⟨c1⟩, ⟨c1⟩, ⟨c0⟩, ⟨c0⟩, ⟨c0⟩, ⟨c0⟩, ⟨(len_map e_i64_s x2)⟩] (by kernel_rfl)
      · rw [if_neg c1] at h
        replace c1 := eqf c1
        by_cases c2 : (party_numbered x1) = true
        · rw [if_pos c2] at h
          by_cases c3 : ltI x3 (nI x2.length) = true
          · rw [if_pos c3] at h
            obtain rfl := Option.some.inj h
            exact Tri.of (x := X13) mixed facts13 [.n x2.length, .d false, .d false, .d false, .d false, .d false, .d false, .d false, .call ⟨true, []⟩ (.bool (party_numbered x1)) [], .d false, .d false, .d false, .d false, .d false, .n x2.length, .d false, .d false, .d false, .d false, .d true, .d true, .d true, .d true] [⟨(rfl : true = true)⟩, ⟨c3⟩, ⟨c3⟩, ⟨c3⟩, ⟨(nF c2)⟩, ⟨(nF c2)⟩, ⟨(nF c2)⟩, ⟨(nF c2)⟩, ⟨(len_map e_i64_s x2)⟩, ⟨(nF c2)⟩, ⟨(nF c2)⟩, ⟨(nF c2)⟩, ⟨c1⟩, ⟨c1⟩, ⟨(ok_party_numbered x1)⟩, ⟨c1⟩, ⟨c1⟩, ⟨c1⟩, ⟨c0⟩, ⟨c0⟩, ⟨c0⟩, ⟨c0⟩, ⟨(len_map e_i64_s x2)⟩] (by kernel_rfl)
          · rw [if_neg c3] at h
            replace c3 := eqf c3
            by_cases c4 : ltI (isub .i64 x1 (nI x2.length)) 0 = true
            · rw [if_pos c4] at h
              obtain rfl := Option.some.inj h
              exact Tri.of (x := X13) mixed facts13 [.n x2.length, .d false, .d false, .d false, .d false, .d false, .d false, .d false, .call ⟨true, []⟩ (.bool (party_numbered x1)) [], .d false, .d false, .d false, .d false, .d false, .n x2.length, .d false, .d false, .d false, .d false, .d false, .d false, .d false, .d true] [⟨c4⟩, ⟨c3⟩, ⟨c3⟩, ⟨c3⟩, ⟨(nF c2)⟩, ⟨(nF c2)⟩, ⟨(nF c2)⟩, ⟨(nF c2)⟩, ⟨(len_map e_i64_s x2)⟩, ⟨(nF c2)⟩, ⟨(nF c2)⟩, ⟨(nF c2)⟩, ⟨c1⟩, ⟨c1⟩, ⟨(ok_party_numbered x1)⟩, ⟨c1⟩, ⟨c1⟩, ⟨c1⟩, ⟨c0⟩, ⟨c0⟩, ⟨c0⟩, ⟨c0⟩, ⟨(len_map e_i64_s x2)⟩] (by kernel_rfl)
            · rw [if_neg c4] at h
              replace c4 := eqf c4
              obtain ⟨x4, e5, h⟩ := Option.bind_eq_some_iff.1 h
              cases x4 with
              | inl x5 =>
                simp only [Sum.elim_inl] at h
                obtain rfl := Option.some.inj h
                exact Tri.of (x := X13) mixed facts13 [.n x2.length, .d false, .d false, .d false, .d false, .d false, .d false, .d false, .call ⟨true, []⟩ (.bool (party_numbered x1)) [], .d false, .d false, .d false, .d false, .d false, .n x2.length, .d false, .d false, .d false, .d false, .d false, .d false, .d false, .d false, .n x2.length, .norm 2 ⟨[(3, []), (39, []), (40, []), (41, [])], [], false, [], []⟩, .out (.st .normal (E13_0_0))] [⟨(LT.block (ok_party_Right_l0 x1 x2 _ k 0 e5))⟩, ⟨(len_map e_i64_s x2)⟩, ⟨c4⟩, ⟨c3⟩, ⟨c3⟩, ⟨c3⟩, ⟨(nF c2)⟩, ⟨(nF c2)⟩, ⟨(nF c2)⟩, ⟨(nF c2)⟩, ⟨(len_map e_i64_s x2)⟩, ⟨(nF c2)⟩, ⟨(nF c2)⟩, ⟨(nF c2)⟩, ⟨c1⟩, ⟨c1⟩, ⟨(ok_party_numbered x1)⟩, ⟨c1⟩, ⟨c1⟩, ⟨c1⟩, ⟨c0⟩, ⟨c0⟩, ⟨c0⟩, ⟨c0⟩, ⟨(len_map e_i64_s x2)⟩] (by kernel_rfl)
              | inr x5 =>
                simp only [Sum.elim_inr] at h
                obtain rfl := Option.some.inj h
                exact Tri.of (x := X13) mixed facts13 [.n x2.length, .d false, .d false, .d false, .d false, .d false, .d false, .d false, .call ⟨true, []⟩ (.bool (party_numbered x1)) [], .d false, .d false, .d false, .d false, .d false, .n x2.length, .d false, .d false, .d false, .d false, .d false, .d false, .d false, .d false, .n x2.length, .norm 2 ⟨[(3, []), (39, []), (40, []), (41, [])], [], false, [], []⟩, .out (.fin (.bool x5) [])] [⟨(LT.blockFin (id := 0) (ok_party_Right_l0 x1 x2 _ k 0 e5))⟩, ⟨(len_map e_i64_s x2)⟩, ⟨c4⟩, ⟨c3⟩, ⟨c3⟩, ⟨c3⟩, ⟨(nF c2)⟩, ⟨(nF c2)⟩, ⟨(nF c2)⟩, ⟨(nF c2)⟩, ⟨(len_map e_i64_s x2)⟩, ⟨(nF c2)⟩, ⟨(nF c2)⟩, ⟨(nF c2)⟩, ⟨c1⟩, ⟨c1⟩, ⟨(ok_party_numbered x1)⟩, ⟨c1⟩, ⟨c1⟩, ⟨c1⟩, ⟨c0⟩, ⟨c0⟩, ⟨c0⟩, ⟨c0⟩, ⟨(len_map e_i64_s x2)⟩] (by kernel_rfl)
        · rw [if_neg c2] at h
          replace c2 := eqf c2
          obtain rfl := Option.some.inj h
          exact Tri.of (x := X13) mixed facts13 [.n x2.length, .d false, .d false, .d false, .d false, .d false, .d false, .d false, .call ⟨true, []⟩ (.bool (party_numbered x1)) [], .d false, .d false, .d true, .d true, .d true, .d true, .d true, .d true, .d true, .d true, .d true, .d true, .d true] [⟨(rfl : true = true)⟩, ⟨(rfl : true = true)⟩, ⟨(rfl : true = true)⟩, ⟨(rfl : true = true)⟩, ⟨(nT c2)⟩, ⟨(nT c2)⟩, ⟨(nT c2)⟩, ⟨(nT c2)⟩, ⟨(nT c2)⟩, ⟨(nT c2)⟩, ⟨(nT c2)⟩, ⟨c1⟩, ⟨c1⟩, ⟨(ok_party_numbered x1)⟩, ⟨c1⟩, ⟨c1⟩, ⟨c1⟩, ⟨c0⟩, ⟨c0⟩, ⟨c0⟩, ⟨c0⟩, ⟨(len_map e_i64_s x2)⟩] (by kernel_rfl)
end Go.Ws
