/-
  law16_talk_begins_3: what the machine makes of it. (Printed by my own program.)
  Conditions: none.
-/
import Derived.Test.YtbgikhebodociaaZPre
import Derived.Test.YtbgikhebodociaaZPure
set_option linter.unusedVariables false
set_option linter.unusedSimpArgs false
namespace Go.Ws
open Go.Proofs
set_option linter.unusedSimpArgs false
set_option linter.unusedVariables false
set_option maxRecDepth 1000000
set_option maxHeartbeats 4000000
noncomputable def X12_3 (x1 : Int) (x2 : List (Int × ByteArray)) (x3 : Int) (x4 : Int) (x5 : List ByteArray) (x6 : List ByteArray) (x7 : List (Int × ByteArray)) : Ctx := ⟨Try.f12, [(.row [(.int .i64 x1), (.sl 2 (List.map e_i64_s x2)), (.int .i64 x3), (.int .i64 x4), (.ref 1 1 1 0 x5.length .virt), (.ref 1 2 1 0 x6.length .virt), (.ref 2 3 1 0 x7.length .virt)]), (.arr 1 (List.map e_str x5) 1 1 false), (.arr 1 (List.map e_str x6) 1 1 false), (.arr 2 (List.map e_i64_s x7) 1 1 false)], false⟩
noncomputable def L12_3_0 : Code := at_ Try.f12 [1, 1, 0, 1, 4, 5]
def S12_3_0 (x1 : Int) (x2 : List (Int × ByteArray)) (x3 : Int) (x4 : Int) (x5 : List ByteArray) (x6 : List ByteArray) (x7 : List (Int × ByteArray)) (v312001_1 : Int) : St := ⟨mkT 49 [(0, (.hp 0 0)), (32, (.ref 1 2 1 0 x6.length .virt)), (33, (.int .i64 (nI x6.length))), (34, (.int .i64 v312001_1))], [(.row [(.int .i64 x1), (.sl 2 (List.map e_i64_s x2)), (.int .i64 x3), (.int .i64 x4), (.ref 1 1 1 0 x5.length .virt), (.ref 1 2 1 0 x6.length .virt), (.ref 2 3 1 0 x7.length .virt)]), (.arr 1 (List.map e_str x5) 1 1 false), (.arr 1 (List.map e_str x6) 1 1 false), (.arr 2 (List.map e_i64_s x7) 1 1 false)]⟩
def E12_3_0_0 (x1 : Int) (x2 : List (Int × ByteArray)) (x3 : Int) (x4 : Int) (x5 : List ByteArray) (x6 : List ByteArray) (x7 : List (Int × ByteArray)) : St := ⟨mkT 49 [], [(.row [(.int .i64 x1), (.sl 2 (List.map e_i64_s x2)), (.int .i64 x3), (.int .i64 x4), (.ref 1 1 1 0 x5.length .virt), (.ref 1 2 1 0 x6.length .virt), (.ref 2 3 1 0 x7.length .virt)]), (.arr 1 (List.map e_str x5) 1 1 false), (.arr 1 (List.map e_str x6) 1 1 false), (.arr 2 (List.map e_i64_s x7) 1 1 false)]⟩
def O12_3_0 (x1 : Int) (x2 : List (Int × ByteArray)) (x3 : Int) (x4 : Int) (x5 : List ByteArray) (x6 : List ByteArray) (x7 : List (Int × ByteArray)) (y : (Sum (Unit) (Bool))) : GX := match y with
  | .inl y => .st (.exit 0) (E12_3_0_0 x1 x2 x3 x4 x5 x6 x7)
  | .inr y => .fin (.bool y) [(.row [(.int .i64 x1), (.sl 2 (List.map e_i64_s x2)), (.int .i64 x3), (.int .i64 x4), (.ref 1 1 1 0 x5.length .virt), (.ref 1 2 1 0 x6.length .virt), (.ref 2 3 1 0 x7.length .virt)]), (.arr 1 (List.map e_str x5) 1 1 false), (.arr 1 (List.map e_str x6) 1 1 false), (.arr 2 (List.map e_i64_s x7) 1 1 false)]
theorem ok_law16_talk_begins_3_l0 (x1 : Int) (x2 : List (Int × ByteArray)) (x3 : Int) (x4 : Int) (x5 : List ByteArray) (x6 : List ByteArray) (x7 : List (Int × ByteArray)) (y : (Sum (Unit) (Bool))) : ∀ (k : Nat) (v312001_1 : Int), law16_talk_begins_3_l0 k x1 x2 x3 x4 x5 x6 x7 v312001_1 = some y → LT Try.prog (X12_3 x1 x2 x3 x4 x5 x6 x7) L12_3_0 (S12_3_0 x1 x2 x3 x4 x5 x6 x7 v312001_1) (O12_3_0 x1 x2 x3 x4 x5 x6 x7 y)
  | 0, v312001_1, h => by cases h
  | k + 1, v312001_1, h => by
    rw [law16_talk_begins_3_l0] at h
    by_cases cL0 : ltI v312001_1 (nI x6.length) = true
    · rw [if_pos cL0] at h
      by_cases cL1 : inI v312001_1 x6.length = true
      · rw [if_pos cL1] at h
        obtain ⟨v312000_1, eL2, h⟩ := Option.bind_eq_some_iff.1 h
        by_cases cL3 : inI v312001_1 x5.length = true
        · rw [if_pos cL3] at h
          obtain ⟨v312000_2, eL4, h⟩ := Option.bind_eq_some_iff.1 h
          by_cases cL5 : eqS v312000_2 v312000_1 = true
          · rw [if_pos cL5] at h
            exact LT.next mixed (hs := ⟨[(0, []), (32, []), (33, []), (34, [])], [], false, [], []⟩) (es := none) [.d true, .row [(.str v312000_1)], .row [(.str v312000_2)], .d false] [⟨(nF cL5)⟩, ⟨(cells_map (e := e_str) eL4 1 0 1 (by decide))⟩, ⟨cL3⟩, ⟨(cells_map (e := e_str) eL2 1 0 1 (by decide))⟩, ⟨cL1⟩, ⟨cL0⟩] (by kernel_rfl) (ok_law16_talk_begins_3_l0 x1 x2 x3 x4 x5 x6 x7 y k (iadd .i64 v312001_1 1) h)
          · rw [if_neg cL5] at h
            replace cL5 := eqf cL5
            obtain rfl := Option.some.inj h
            show LT _ _ _ _ (.fin (.bool false) [(.row [(.int .i64 x1), (.sl 2 (List.map e_i64_s x2)), (.int .i64 x3), (.int .i64 x4), (.ref 1 1 1 0 x5.length .virt), (.ref 1 2 1 0 x6.length .virt), (.ref 2 3 1 0 x7.length .virt)]), (.arr 1 (List.map e_str x5) 1 1 false), (.arr 1 (List.map e_str x6) 1 1 false), (.arr 2 (List.map e_i64_s x7) 1 1 false)])
            exact LT.done mixed (hs := ⟨[], [], false, [], []⟩) (es := none) [.d true, .row [(.str v312000_1)], .row [(.str v312000_2)], .d true, .norm 0 ⟨[(2, [])], [], false, [], []⟩] [⟨(nT cL5)⟩, ⟨(cells_map (e := e_str) eL4 1 0 1 (by decide))⟩, ⟨cL3⟩, ⟨(cells_map (e := e_str) eL2 1 0 1 (by decide))⟩, ⟨cL1⟩, ⟨cL0⟩] (by kernel_rfl) (fun s h => by cases h)
        · rw [if_neg cL3] at h
          replace cL3 := eqf cL3
          cases h
      · rw [if_neg cL1] at h
        replace cL1 := eqf cL1
        cases h
    · rw [if_neg cL0] at h
      replace cL0 := eqf cL0
      obtain rfl := Option.some.inj h
      show LT _ _ _ _ (.st (.exit 0) (E12_3_0_0 x1 x2 x3 x4 x5 x6 x7))
      exact LT.done mixed (hs := ⟨[], [], false, [], []⟩) (es := (some ⟨[], [], false, [], []⟩)) [.d false] [⟨cL0⟩] (by kernel_rfl) (fun s h => by cases h)
theorem ok_law16_talk_begins_3 (k : Nat) (x1 : Int) (x2 : List (Int × ByteArray)) (x3 : Int) (x4 : Int) (x5 : List ByteArray) (x6 : List ByteArray) (x7 : List (Int × ByteArray)) (r : Bool) (h : law16_talk_begins_3 k x1 x2 x3 x4 x5 x6 x7 = some r) : Tri Try.prog 12 [(.hp 0 0)] [(.row [(.int .i64 x1), (.sl 2 (List.map e_i64_s x2)), (.int .i64 x3), (.int .i64 x4), (.ref 1 1 1 0 x5.length .virt), (.ref 1 2 1 0 x6.length .virt), (.ref 2 3 1 0 x7.length .virt)]), (.arr 1 (List.map e_str x5) 1 1 false), (.arr 1 (List.map e_str x6) 1 1 false), (.arr 2 (List.map e_i64_s x7) 1 1 false)] (.bool r) [(.row [(.int .i64 x1), (.sl 2 (List.map e_i64_s x2)), (.int .i64 x3), (.int .i64 x4), (.ref 1 1 1 0 x5.length .virt), (.ref 1 2 1 0 x6.length .virt), (.ref 2 3 1 0 x7.length .virt)]), (.arr 1 (List.map e_str x5) 1 1 false), (.arr 1 (List.map e_str x6) 1 1 false), (.arr 2 (List.map e_i64_s x7) 1 1 false)] := by
    unfold law16_talk_begins_3 at h
    by_cases c0 : ltI (nI x5.length) (nI x6.length) = true
    · rw [if_pos c0] at h
      obtain rfl := Option.some.inj h
      exact Tri.of (x := (X12_3 x1 x2 x3 x4 x5 x6 x7)) mixed facts12 [.d true, .d true, .d true, .d true, .d true, .d true, .d true, .d true, .d true, .d true, .d true, .d true, .d true, .norm 0 ⟨[(2, [])], [], false, [], []⟩] [⟨(rfl : true = true)⟩, ⟨c0⟩, ⟨c0⟩, ⟨c0⟩, ⟨c0⟩, ⟨c0⟩, ⟨c0⟩, ⟨c0⟩, ⟨c0⟩, ⟨c0⟩, ⟨c0⟩, ⟨c0⟩, ⟨c0⟩] (by kernel_rfl)
    · rw [if_neg c0] at h
      replace c0 := eqf c0
      by_cases c1 : eqI x4 (nI x6.length) = true
      · rw [if_pos c1] at h
        obtain ⟨x8, e2, h⟩ := Option.bind_eq_some_iff.1 h
        cases x8 with
        | inl x9 =>
          simp only [Sum.elim_inl] at h
          obtain rfl := Option.some.inj h
          exact Tri.of (x := (X12_3 x1 x2 x3 x4 x5 x6 x7)) mixed facts12 [.d false, .d false, .d false, .d false, .d false, .d false, .d false, .d false, .d false, .d false, .d false, .d false, .d false, .norm 2 ⟨[(0, []), (32, []), (33, []), (34, [])], [], false, [], []⟩, .out (.st .normal (E12_3_0_0 x1 x2 x3 x4 x5 x6 x7)), .norm 0 ⟨[(2, [])], [], false, [], []⟩] [⟨(LT.block (ok_law16_talk_begins_3_l0 x1 x2 x3 x4 x5 x6 x7 _ k 0 e2))⟩, ⟨(nF c1)⟩, ⟨c0⟩, ⟨c0⟩, ⟨c0⟩, ⟨c0⟩, ⟨c0⟩, ⟨c0⟩, ⟨c0⟩, ⟨c0⟩, ⟨c0⟩, ⟨c0⟩, ⟨c0⟩, ⟨c0⟩] (by kernel_rfl)
        | inr x9 =>
          simp only [Sum.elim_inr] at h
          obtain rfl := Option.some.inj h
          exact Tri.of (x := (X12_3 x1 x2 x3 x4 x5 x6 x7)) mixed facts12 [.d false, .d false, .d false, .d false, .d false, .d false, .d false, .d false, .d false, .d false, .d false, .d false, .d false, .norm 2 ⟨[(0, []), (32, []), (33, []), (34, [])], [], false, [], []⟩, .out (.fin (.bool x9) [(.row [(.int .i64 x1), (.sl 2 (List.map e_i64_s x2)), (.int .i64 x3), (.int .i64 x4), (.ref 1 1 1 0 x5.length .virt), (.ref 1 2 1 0 x6.length .virt), (.ref 2 3 1 0 x7.length .virt)]), (.arr 1 (List.map e_str x5) 1 1 false), (.arr 1 (List.map e_str x6) 1 1 false), (.arr 2 (List.map e_i64_s x7) 1 1 false)])] [⟨(LT.blockFin (id := 0) (ok_law16_talk_begins_3_l0 x1 x2 x3 x4 x5 x6 x7 _ k 0 e2))⟩, ⟨(nF c1)⟩, ⟨c0⟩, ⟨c0⟩, ⟨c0⟩, ⟨c0⟩, ⟨c0⟩, ⟨c0⟩, ⟨c0⟩, ⟨c0⟩, ⟨c0⟩, ⟨c0⟩, ⟨c0⟩, ⟨c0⟩] (by kernel_rfl)
      · rw [if_neg c1] at h
        replace c1 := eqf c1
        obtain rfl := Option.some.inj h
        exact Tri.of (x := (X12_3 x1 x2 x3 x4 x5 x6 x7)) mixed facts12 [.d false, .d false, .d false, .d false, .d false, .d false, .d false, .d false, .d false, .d false, .d false, .d false, .d true, .norm 0 ⟨[(2, [])], [], false, [], []⟩] [⟨(nT c1)⟩, ⟨c0⟩, ⟨c0⟩, ⟨c0⟩, ⟨c0⟩, ⟨c0⟩, ⟨c0⟩, ⟨c0⟩, ⟨c0⟩, ⟨c0⟩, ⟨c0⟩, ⟨c0⟩, ⟨c0⟩] (by kernel_rfl)
end Go.Ws
