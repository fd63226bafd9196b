/-
  slices_DeleteFunc: what the machine makes of it. (Printed by my own program.)
  Conditions: none.
-/
import Derived.Test.YtmjllcefknaneaaZPre
import Derived.Test.YtmjllcefknaneaaZPure
import Derived.Test.YtmjllcefknaneaaZW29
import Derived.Test.YtmjllcefknaneaaZW30_1
set_option linter.unusedVariables false
set_option linter.unusedSimpArgs false
namespace Go.Ws
open Go.Proofs
set_option linter.unusedSimpArgs false
set_option linter.unusedVariables false
set_option maxRecDepth 1000000
set_option maxHeartbeats 4000000
noncomputable def X28 (x1 : List (Int × Int × Bool)) (x2 : Int) : Ctx := ⟨Try.f28, [(.arr 3 (List.map e_u8_i64_b x1) 0 0 false), (.row [(.int .i64 x2)])], false⟩
noncomputable def L28_0 : Code := at_ Try.f28 [1, 1, 1, 0, 1, 4, 5]
def S28_0 (x1 : List (Int × Int × Bool)) (x2 : Int) (v28001_1 : Int) (v28001_2 : Int) (v28001_3 : List (Int × Int × Bool)) : St := ⟨mkT 42 [(0, (.ref 3 0 0 0 x1.length .virt)), (1, (.fn 29 [(.hp 1 0)])), (5, (.int .i64 v28001_2)), (6, (.int .i64 v28001_1))], [(.arr 3 (List.map e_u8_i64_b v28001_3) 0 0 false), (.row [(.int .i64 x2)])]⟩
def E28_0_0 (x1 : List (Int × Int × Bool)) (x2 : Int) (v28002_1 : Int) (v28002_2 : List (Int × Int × Bool)) : St := ⟨mkT 42 [(0, (.ref 3 0 0 0 x1.length .virt)), (5, (.int .i64 v28002_1))], [(.arr 3 (List.map e_u8_i64_b v28002_2) 0 0 false), (.row [(.int .i64 x2)])]⟩
def O28_0 (x1 : List (Int × Int × Bool)) (x2 : Int) (y : (Int × (List (Int × Int × Bool)))) : GX := .st (.exit 0) (E28_0_0 x1 x2 y.1 y.2)
theorem ok_slices_DeleteFunc_l0 (x1 : List (Int × Int × Bool)) (x2 : Int) (y : (Int × (List (Int × Int × Bool)))) : ∀ (k : Nat) (v28001_1 : Int) (v28001_2 : Int) (v28001_3 : List (Int × Int × Bool)), slices_DeleteFunc_l0 k x1 x2 v28001_1 v28001_2 v28001_3 = some y → LT Try.prog (X28 x1 x2) L28_0 (S28_0 x1 x2 v28001_1 v28001_2 v28001_3) (O28_0 x1 x2 y)
  | 0, v28001_1, v28001_2, v28001_3, h => by cases h
  | k + 1, v28001_1, v28001_2, v28001_3, h => by
    rw [slices_DeleteFunc_l0] at h
    by_cases cL0 : ltI v28001_1 (nI x1.length) = true
    · rw [if_pos cL0] at h
      by_cases cL1 : inI v28001_1 x1.length = true
      · rw [if_pos cL1] at h
        obtain ⟨v28000_1, eL2, h⟩ := Option.bind_eq_some_iff.1 h
        by_cases cL3 : eqI v28000_1.2.1 x2 = true
        · rw [if_pos cL3] at h
          exact LT.next mixed (hs := ⟨[(0, []), (1, []), (5, []), (6, [])], [], false, [], []⟩) (es := none) [.d true, .row [(.int .u8 v28000_1.1), (.int .i64 v28000_1.2.1), (.bool v28000_1.2.2)], .call ⟨false, []⟩ (.bool (eqI v28000_1.2.1 x2)) [(.row [(.int .i64 x2)])], .d false] [⟨(nF cL3)⟩, ⟨(ok_lock_Free_1 v28000_1.1 v28000_1.2.1 v28000_1.2.2 x2)⟩, ⟨(cells_map (e := e_u8_i64_b) eL2 3 0 3 (by decide))⟩, ⟨cL1⟩, ⟨cL0⟩] (by kernel_rfl) (ok_slices_DeleteFunc_l0 x1 x2 y k (iadd .i64 v28001_1 1) v28001_2 v28001_3 h)
        · rw [if_neg cL3] at h
          replace cL3 := eqf cL3
          by_cases cL4 : inI v28001_2 x1.length = true
          · rw [if_pos cL4] at h
            obtain ⟨v28000_2, eL5, h⟩ := Option.bind_eq_some_iff.1 h
            exact LT.next mixed (hs := ⟨[(0, []), (1, []), (5, []), (6, [])], [], false, [], []⟩) (es := none) [.d true, .row [(.int .u8 v28000_1.1), (.int .i64 v28000_1.2.1), (.bool v28000_1.2.2)], .call ⟨false, []⟩ (.bool (eqI v28000_1.2.1 x2)) [(.row [(.int .i64 x2)])], .d true, .rows (List.map e_u8_i64_b (List.set v28001_3 (tN v28001_2) v28000_1))] [⟨(store_map (e := e_u8_i64_b) eL5 0 [(.int .u8 v28000_1.1), (.int .i64 v28000_1.2.1), (.bool v28000_1.2.2)] v28000_1 rfl)⟩, ⟨cL4⟩, ⟨(nT cL3)⟩, ⟨(ok_lock_Free_1 v28000_1.1 v28000_1.2.1 v28000_1.2.2 x2)⟩, ⟨(cells_map (e := e_u8_i64_b) eL2 3 0 3 (by decide))⟩, ⟨cL1⟩, ⟨cL0⟩] (by kernel_rfl) (ok_slices_DeleteFunc_l0 x1 x2 y k (iadd .i64 v28001_1 1) (iadd .i64 v28001_2 1) (List.set v28001_3 (tN v28001_2) v28000_1) h)
          · rw [if_neg cL4] at h
            replace cL4 := eqf cL4
            cases h
      · rw [if_neg cL1] at h
        replace cL1 := eqf cL1
        cases h
    · rw [if_neg cL0] at h
      replace cL0 := eqf cL0
      obtain rfl := Option.some.inj h
      show LT _ _ _ _ (.st (.exit 0) (E28_0_0 x1 x2 v28001_2 v28001_3))
      exact LT.done mixed (hs := ⟨[], [], false, [], []⟩) (es := (some ⟨[(0, []), (5, [])], [], false, [], []⟩)) [.d false] [⟨cL0⟩] (by kernel_rfl) (fun s h => by cases h)
theorem ok_slices_DeleteFunc (k : Nat) (x1 : List (Int × Int × Bool)) (x2 : Int) (r : Nat × (List (Int × Int × Bool))) (h : slices_DeleteFunc k x1 x2 = some r) : Tri Try.prog 28 [(.ref 3 0 0 0 x1.length .virt), (.fn 29 [(.hp 1 0)])] [(.arr 3 (List.map e_u8_i64_b x1) 0 0 false), (.row [(.int .i64 x2)])] (.ref 3 0 0 0 r.1 .virt) [(.arr 3 (List.map e_u8_i64_b r.2) 0 0 false), (.row [(.int .i64 x2)])] := by
    unfold slices_DeleteFunc at h
    obtain ⟨x3, e0, h⟩ := Option.bind_eq_some_iff.1 h
    by_cases c1 : eqI x3 (-1) = true
    · rw [if_pos c1] at h
      obtain rfl := Option.some.inj h
      exact Tri.of (x := (X28 x1 x2)) mixed facts28 [.call ⟨false, []⟩ (.int .i64 x3) [(.arr 3 (List.map e_u8_i64_b x1) 0 0 false), (.row [(.int .i64 x2)])], .d true, .norm 0 ⟨[(4, [])], [], false, [], []⟩] [⟨c1⟩, ⟨(ok_slices_IndexFunc_1 k x1 x2 _ e0)⟩] (by kernel_rfl)
    · rw [if_neg c1] at h
      replace c1 := eqf c1
      obtain ⟨x5, e2, h⟩ := Option.bind_eq_some_iff.1 h
      by_cases c4 : isZ x1.length = true
      · rw [if_pos c4] at h
        cases h
      · rw [if_neg c4] at h
        replace c4 := eqf c4
        by_cases c5 : capI x1.length x5.2.length = true
        · rw [if_pos c5] at h
          by_cases c6 : leI x5.1 x1.length = true
          · rw [if_pos c6] at h
            by_cases c7 : isZ (x1.length - (tN x5.1)) = true
            · rw [if_pos c7] at h
              by_cases c8 : leI x5.1 x5.2.length = true
              · rw [if_pos c8] at h
                obtain rfl := Option.some.inj h
                exact Tri.of (x := (X28 x1 x2)) mixed facts28 [.call ⟨false, []⟩ (.int .i64 x3) [(.arr 3 (List.map e_u8_i64_b x1) 0 0 false), (.row [(.int .i64 x2)])], .d false, .norm 2 ⟨[(0, []), (1, []), (5, []), (6, [])], [], false, [], []⟩, .out (.st .normal (E28_0_0 x1 x2 x5.1 x5.2)), .d false, .n x5.2.length, .n x5.2.length, .n (tN x5.1), .n (x1.length - (tN x5.1)), .d true, .d false, .n x5.2.length, .n x5.2.length, .n 0, .n (tN x5.1), .norm 0 ⟨[(4, [])], [], false, [], []⟩] [⟨(rfl : (tN x5.1) - 0 = tN x5.1)⟩, ⟨((Nat.zero_add _) : 0 + 0 = 0)⟩, ⟨c8⟩, ⟨(rfl : x5.2.length - 0 = x5.2.length)⟩, ⟨(zadd_le ((cap_le c5) : x1.length ≤ x5.2.length))⟩, ⟨(len_map e_u8_i64_b x5.2)⟩, ⟨c4⟩, ⟨c7⟩, ⟨(rfl : x1.length - (tN x5.1) = x1.length - (tN x5.1))⟩, ⟨((Nat.zero_add _) : 0 + (tN x5.1) = tN x5.1)⟩, ⟨c6⟩, ⟨(rfl : x5.2.length - 0 = x5.2.length)⟩, ⟨(zadd_le ((cap_le c5) : x1.length ≤ x5.2.length))⟩, ⟨(len_map e_u8_i64_b x5.2)⟩, ⟨c4⟩, ⟨(LT.block (ok_slices_DeleteFunc_l0 x1 x2 _ k (iadd .i64 x3 1) x3 x1 e2))⟩, ⟨c1⟩, ⟨(ok_slices_IndexFunc_1 k x1 x2 _ e0)⟩] (by kernel_rfl)
              · rw [if_neg c8] at h
                replace c8 := eqf c8
                cases h
            · rw [if_neg c7] at h
              replace c7 := eqf c7
              by_cases c8 : capI (tN x5.1 + (x1.length - (tN x5.1))) x5.2.length = true
              · rw [if_pos c8] at h
                by_cases c9 : capI (tN x5.1) x5.2.length = true
                · rw [if_pos c9] at h
                  by_cases c10 : capI x1.length ((((List.take (tN x5.1) x5.2) ++ (List.replicate (x1.length - (tN x5.1)) (0, 0, false))) ++ (List.drop (tN x5.1 + (x1.length - (tN x5.1))) x5.2)).length) = true
                  · rw [if_pos c10] at h
                    by_cases c11 : leI x5.1 ((((List.take (tN x5.1) x5.2) ++ (List.replicate (x1.length - (tN x5.1)) (0, 0, false))) ++ (List.drop (tN x5.1 + (x1.length - (tN x5.1))) x5.2)).length) = true
                    · rw [if_pos c11] at h
                      obtain rfl := Option.some.inj h
                      exact Tri.of (x := (X28 x1 x2)) mixed facts28 [.call ⟨false, []⟩ (.int .i64 x3) [(.arr 3 (List.map e_u8_i64_b x1) 0 0 false), (.row [(.int .i64 x2)])], .d false, .norm 2 ⟨[(0, []), (1, []), (5, []), (6, [])], [], false, [], []⟩, .out (.st .normal (E28_0_0 x1 x2 x5.1 x5.2)), .d false, .n x5.2.length, .n x5.2.length, .n (tN x5.1), .n (x1.length - (tN x5.1)), .d false, .rows (List.map e_u8_i64_b (((List.take (tN x5.1) x5.2) ++ (List.replicate (x1.length - (tN x5.1)) (0, 0, false))) ++ (List.drop (tN x5.1 + (x1.length - (tN x5.1))) x5.2))), .d false, .n ((((List.take (tN x5.1) x5.2) ++ (List.replicate (x1.length - (tN x5.1)) (0, 0, false))) ++ (List.drop (tN x5.1 + (x1.length - (tN x5.1))) x5.2)).length), .n ((((List.take (tN x5.1) x5.2) ++ (List.replicate (x1.length - (tN x5.1)) (0, 0, false))) ++ (List.drop (tN x5.1 + (x1.length - (tN x5.1))) x5.2)).length), .n 0, .n (tN x5.1), .norm 0 ⟨[(4, [])], [], false, [], []⟩] [⟨(rfl : (tN x5.1) - 0 = tN x5.1)⟩, ⟨((Nat.zero_add _) : 0 + 0 = 0)⟩, ⟨c11⟩, ⟨(rfl : ((((List.take (tN x5.1) x5.2) ++ (List.replicate (x1.length - (tN x5.1)) (0, 0, false))) ++ (List.drop (tN x5.1 + (x1.length - (tN x5.1))) x5.2)).length) - 0 = (((List.take (tN x5.1) x5.2) ++ (List.replicate (x1.length - (tN x5.1)) (0, 0, false))) ++ (List.drop (tN x5.1 + (x1.length - (tN x5.1))) x5.2)).length)⟩, ⟨(zadd_le ((cap_le c10) : x1.length ≤ (((List.take (tN x5.1) x5.2) ++ (List.replicate (x1.length - (tN x5.1)) (0, 0, false))) ++ (List.drop (tN x5.1 + (x1.length - (tN x5.1))) x5.2)).length))⟩, ⟨(len_map e_u8_i64_b (((List.take (tN x5.1) x5.2) ++ (List.replicate (x1.length - (tN x5.1)) (0, 0, false))) ++ (List.drop (tN x5.1 + (x1.length - (tN x5.1))) x5.2)))⟩, ⟨c4⟩, ⟨(clear_map e_u8_i64_b x5.2 (tN x5.1) (x1.length - (tN x5.1)) (0, 0, false))⟩, ⟨(le_mapI e_u8_i64_b (cap_le c8))⟩, ⟨c7⟩, ⟨(rfl : x1.length - (tN x5.1) = x1.length - (tN x5.1))⟩, ⟨((Nat.zero_add _) : 0 + (tN x5.1) = tN x5.1)⟩, ⟨c6⟩, ⟨(rfl : x5.2.length - 0 = x5.2.length)⟩, ⟨(zadd_le ((cap_le c5) : x1.length ≤ x5.2.length))⟩, ⟨(len_map e_u8_i64_b x5.2)⟩, ⟨c4⟩, ⟨(LT.block (ok_slices_DeleteFunc_l0 x1 x2 _ k (iadd .i64 x3 1) x3 x1 e2))⟩, ⟨c1⟩, ⟨(ok_slices_IndexFunc_1 k x1 x2 _ e0)⟩] (by kernel_rfl)
                    · rw [if_neg c11] at h
                      replace c11 := eqf c11
                      cases h
                  · rw [if_neg c10] at h
                    replace c10 := eqf c10
                    cases h
                · rw [if_neg c9] at h
                  replace c9 := eqf c9
                  cases h
              · rw [if_neg c8] at h
                replace c8 := eqf c8
                cases h
          · rw [if_neg c6] at h
            replace c6 := eqf c6
            cases h
        · rw [if_neg c5] at h
          replace c5 := eqf c5
          cases h
end Go.Ws
