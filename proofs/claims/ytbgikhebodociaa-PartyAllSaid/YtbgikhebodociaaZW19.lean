/-
  slices_DeleteFunc: what the machine makes of it. (Printed by my own program.)
  Conditions: none.
-/
import Derived.Test.YtbgikhebodociaaZPre
import Derived.Test.YtbgikhebodociaaZPure
import Derived.Test.YtbgikhebodociaaZW20
import Derived.Test.YtbgikhebodociaaZW21
set_option linter.unusedVariables false
set_option linter.unusedSimpArgs false
namespace Go.Ws
open Go.Proofs
set_option linter.unusedSimpArgs false
set_option linter.unusedVariables false
set_option maxRecDepth 1000000
set_option maxHeartbeats 4000000
noncomputable def X19 (x1 : List (Int × ByteArray)) (x2 : Int) : Ctx := ⟨Try.f19, [(.arr 2 (List.map e_i64_s x1) 0 0 false), (.row [(.int .i64 x2)])], false⟩
noncomputable def L19_0 : Code := at_ Try.f19 [1, 1, 1, 0, 1, 4, 5]
def S19_0 (x1 : List (Int × ByteArray)) (x2 : Int) (v19001_1 : Int) (v19001_2 : Int) (v19001_3 : List (Int × ByteArray)) : St := ⟨mkT 42 [(0, (.ref 2 0 0 0 x1.length .virt)), (1, (.fn 20 [(.hp 1 0)])), (5, (.int .i64 v19001_2)), (6, (.int .i64 v19001_1))], [(.arr 2 (List.map e_i64_s v19001_3) 0 0 false), (.row [(.int .i64 x2)])]⟩
def E19_0_0 (x1 : List (Int × ByteArray)) (x2 : Int) (v19002_1 : Int) (v19002_2 : List (Int × ByteArray)) : St := ⟨mkT 42 [(0, (.ref 2 0 0 0 x1.length .virt)), (5, (.int .i64 v19002_1))], [(.arr 2 (List.map e_i64_s v19002_2) 0 0 false), (.row [(.int .i64 x2)])]⟩
def O19_0 (x1 : List (Int × ByteArray)) (x2 : Int) (y : (Int × (List (Int × ByteArray)))) : GX := .st (.exit 0) (E19_0_0 x1 x2 y.1 y.2)
theorem ok_slices_DeleteFunc_l0 (x1 : List (Int × ByteArray)) (x2 : Int) (y : (Int × (List (Int × ByteArray)))) : ∀ (k : Nat) (v19001_1 : Int) (v19001_2 : Int) (v19001_3 : List (Int × ByteArray)), slices_DeleteFunc_l0 k x1 x2 v19001_1 v19001_2 v19001_3 = some y → LT Try.prog (X19 x1 x2) L19_0 (S19_0 x1 x2 v19001_1 v19001_2 v19001_3) (O19_0 x1 x2 y)
  | 0, v19001_1, v19001_2, v19001_3, h => by cases h
  | k + 1, v19001_1, v19001_2, v19001_3, h => by
    rw [slices_DeleteFunc_l0] at h
    by_cases cL0 : ltI v19001_1 (nI x1.length) = true
    · rw [if_pos cL0] at h
      by_cases cL1 : inI v19001_1 x1.length = true
      · rw [if_pos cL1] at h
        obtain ⟨v19000_1, eL2, h⟩ := Option.bind_eq_some_iff.1 h
        by_cases cL3 : ltI v19000_1.1 x2 = true
        · rw [if_pos cL3] at h
          exact LT.next mixed (hs := ⟨[(0, []), (1, []), (5, []), (6, [])], [], false, [], []⟩) (es := none) [.d true, .row [(.int .i64 v19000_1.1), (.str v19000_1.2)], .call ⟨false, []⟩ (.bool (ltI v19000_1.1 x2)) [(.row [(.int .i64 x2)])], .d false] [⟨(nF cL3)⟩, ⟨(ok_party_Acked_1 v19000_1.1 v19000_1.2 x2)⟩, ⟨(cells_map (e := e_i64_s) eL2 2 0 2 (by decide))⟩, ⟨cL1⟩, ⟨cL0⟩] (by kernel_rfl) (ok_slices_DeleteFunc_l0 x1 x2 y k (iadd .i64 v19001_1 1) v19001_2 v19001_3 h)
        · rw [if_neg cL3] at h
          replace cL3 := eqf cL3
          by_cases cL4 : inI v19001_2 x1.length = true
          · rw [if_pos cL4] at h
            obtain ⟨v19000_2, eL5, h⟩ := Option.bind_eq_some_iff.1 h
            exact LT.next mixed (hs := ⟨[(0, []), (1, []), (5, []), (6, [])], [], false, [], []⟩) (es := none) [.d true, .row [(.int .i64 v19000_1.1), (.str v19000_1.2)], .call ⟨false, []⟩ (.bool (ltI v19000_1.1 x2)) [(.row [(.int .i64 x2)])], .d true, .rows (List.map e_i64_s (List.set v19001_3 (tN v19001_2) v19000_1))] [⟨(store_map (e := e_i64_s) eL5 0 [(.int .i64 v19000_1.1), (.str v19000_1.2)] v19000_1 rfl)⟩, ⟨cL4⟩, ⟨(nT cL3)⟩, ⟨(ok_party_Acked_1 v19000_1.1 v19000_1.2 x2)⟩, ⟨(cells_map (e := e_i64_s) eL2 2 0 2 (by decide))⟩, ⟨cL1⟩, ⟨cL0⟩] (by kernel_rfl) (ok_slices_DeleteFunc_l0 x1 x2 y k (iadd .i64 v19001_1 1) (iadd .i64 v19001_2 1) (List.set v19001_3 (tN v19001_2) v19000_1) h)
          · rw [if_neg cL4] at h
            replace cL4 := eqf cL4
            cases h
      · rw [if_neg cL1] at h
        replace cL1 := eqf cL1
        cases h
    · rw [if_neg cL0] at h
      replace cL0 := eqf cL0
      obtain rfl := Option.some.inj h
      show LT _ _ _ _ (.st (.exit 0) (E19_0_0 x1 x2 v19001_2 v19001_3))
      exact LT.done mixed (hs := ⟨[], [], false, [], []⟩) (es := (some ⟨[(0, []), (5, [])], [], false, [], []⟩)) [.d false] [⟨cL0⟩] (by kernel_rfl) (fun s h => by cases h)
theorem ok_slices_DeleteFunc (k : Nat) (x1 : List (Int × ByteArray)) (x2 : Int) (r : Nat × (List (Int × ByteArray))) (h : slices_DeleteFunc k x1 x2 = some r) : Tri Try.prog 19 [(.ref 2 0 0 0 x1.length .virt), (.fn 20 [(.hp 1 0)])] [(.arr 2 (List.map e_i64_s x1) 0 0 false), (.row [(.int .i64 x2)])] (.ref 2 0 0 0 r.1 .virt) [(.arr 2 (List.map e_i64_s r.2) 0 0 false), (.row [(.int .i64 x2)])] := by
    unfold slices_DeleteFunc at h
    obtain ⟨x3, e0, h⟩ := Option.bind_eq_some_iff.1 h
    by_cases c1 : eqI x3 (-1) = true
    · rw [if_pos c1] at h
      obtain rfl := Option.some.inj h
      exact Tri.of (x := (X19 x1 x2)) mixed facts19 [.call ⟨false, []⟩ (.int .i64 x3) [(.arr 2 (List.map e_i64_s x1) 0 0 false), (.row [(.int .i64 x2)])], .d true, .norm 0 ⟨[(4, [])], [], false, [], []⟩] [⟨c1⟩, ⟨(ok_slices_IndexFunc k x1 x2 _ e0)⟩] (by kernel_rfl)
    · rw [if_neg c1] at h
      replace c1 := eqf c1
      obtain ⟨x5, e2, h⟩ := Option.bind_eq_some_iff.1 h
      by_cases c4 : isZ x1.length = true
      · rw [if_pos c4] at h
        cases h
      · rw [if_neg c4] at h
        replace c4 := eqf c4
        by_cases c5 : capI x1.length x5.2.length = true
        · rw [if_pos c5] at h
          by_cases c6 : leI x5.1 x1.length = true
          · rw [if_pos c6] at h
            by_cases c7 : isZ (x1.length - (tN x5.1)) = true
            · rw [if_pos c7] at h
              by_cases c8 : leI x5.1 x5.2.length = true
              · rw [if_pos c8] at h
                obtain rfl := Option.some.inj h
                exact Tri.of (x := (X19 x1 x2)) mixed facts19 [.call ⟨false, []⟩ (.int .i64 x3) [(.arr 2 (List.map e_i64_s x1) 0 0 false), (.row [(.int .i64 x2)])], .d false, .norm 2 ⟨[(0, []), (1, []), (5, []), (6, [])], [], false, [], []⟩, .out (.st .normal (E19_0_0 x1 x2 x5.1 x5.2)), .d false, .n x5.2.length, .n x5.2.length, .n (tN x5.1), .n (x1.length - (tN x5.1)), .d true, .d false, .n x5.2.length, .n x5.2.length, .n 0, .n (tN x5.1), .norm 0 ⟨[(4, [])], [], false, [], []⟩] [⟨(rfl : (tN x5.1) - 0 = tN x5.1)⟩, ⟨((Nat.zero_add _) : 0 + 0 = 0)⟩, ⟨c8⟩, ⟨(rfl : x5.2.length - 0 = x5.2.length)⟩, ⟨(zadd_le ((cap_le c5) : x1.length ≤ x5.2.length))⟩, ⟨(len_map e_i64_s x5.2)⟩, ⟨c4⟩, ⟨c7⟩, ⟨(rfl : x1.length - (tN x5.1) = x1.length - (tN x5.1))⟩, ⟨((Nat.zero_add _) : 0 + (tN x5.1) = tN x5.1)⟩, ⟨c6⟩, ⟨(rfl : x5.2.length - 0 = x5.2.length)⟩, ⟨(zadd_le ((cap_le c5) : x1.length ≤ x5.2.length))⟩, ⟨(len_map e_i64_s x5.2)⟩, ⟨c4⟩, ⟨(LT.block (ok_slices_DeleteFunc_l0 x1 x2 _ k (iadd .i64 x3 1) x3 x1 e2))⟩, ⟨c1⟩, ⟨(ok_slices_IndexFunc k x1 x2 _ e0)⟩] (by kernel_rfl)
              · rw [if_neg c8] at h
                replace c8 := eqf c8
                cases h
            · rw [if_neg c7] at h
              replace c7 := eqf c7
              by_cases c8 : capI (tN x5.1 + (x1.length - (tN x5.1))) x5.2.length = true
              · rw [if_pos c8] at h
                by_cases c9 : capI (tN x5.1) x5.2.length = true
                · rw [if_pos c9] at h
                  by_cases c10 : leI x5.1 (tN x5.1 + (x1.length - (tN x5.1)) + (x5.2.length - (tN x5.1 + (x1.length - (tN x5.1))))) = true
                  · rw [if_pos c10] at h
                    obtain rfl := Option.some.inj h
                    exact Tri.of (x := (X19 x1 x2)) mixed facts19 [.call ⟨false, []⟩ (.int .i64 x3) [(.arr 2 (List.map e_i64_s x1) 0 0 false), (.row [(.int .i64 x2)])], .d false, .norm 2 ⟨[(0, []), (1, []), (5, []), (6, [])], [], false, [], []⟩, .out (.st .normal (E19_0_0 x1 x2 x5.1 x5.2)), .d false, .n x5.2.length, .n x5.2.length, .n (tN x5.1), .n (x1.length - (tN x5.1)), .d false, .rows (List.map e_i64_s (((List.take (tN x5.1) x5.2) ++ (List.replicate (x1.length - (tN x5.1)) (0, (ByteArray.mk #[])))) ++ (List.drop (tN x5.1 + (x1.length - (tN x5.1))) x5.2))), .d false, .n (tN x5.1 + (x1.length - (tN x5.1)) + (x5.2.length - (tN x5.1 + (x1.length - (tN x5.1))))), .n (tN x5.1 + (x1.length - (tN x5.1)) + (x5.2.length - (tN x5.1 + (x1.length - (tN x5.1))))), .n 0, .n (tN x5.1), .norm 0 ⟨[(4, [])], [], false, [], []⟩] [⟨(rfl : (tN x5.1) - 0 = tN x5.1)⟩, ⟨((Nat.zero_add _) : 0 + 0 = 0)⟩, ⟨c10⟩, ⟨(rfl : (tN x5.1 + (x1.length - (tN x5.1)) + (x5.2.length - (tN x5.1 + (x1.length - (tN x5.1))))) - 0 = tN x5.1 + (x1.length - (tN x5.1)) + (x5.2.length - (tN x5.1 + (x1.length - (tN x5.1)))))⟩, ⟨(zadd_le (by omega : x1.length ≤ tN x5.1 + (x1.length - (tN x5.1)) + (x5.2.length - (tN x5.1 + (x1.length - (tN x5.1))))))⟩, ⟨(len_mapE e_i64_s ((by have := (cap_le c9); simp only [List.length_append, List.length_cons, List.length_nil, List.length_take, List.length_drop, List.length_set, List.length_replicate] <;> omega : tN x5.1 + (x1.length - (tN x5.1)) + (x5.2.length - (tN x5.1 + (x1.length - (tN x5.1)))) = (((List.take (tN x5.1) x5.2) ++ (List.replicate (x1.length - (tN x5.1)) (0, (ByteArray.mk #[])))) ++ (List.drop (tN x5.1 + (x1.length - (tN x5.1))) x5.2)).length)).symm)⟩, ⟨c4⟩, ⟨(clear_map e_i64_s x5.2 (tN x5.1) (x1.length - (tN x5.1)) (0, (ByteArray.mk #[])))⟩, ⟨(le_mapI e_i64_s (cap_le c8))⟩, ⟨c7⟩, ⟨(rfl : x1.length - (tN x5.1) = x1.length - (tN x5.1))⟩, ⟨((Nat.zero_add _) : 0 + (tN x5.1) = tN x5.1)⟩, ⟨c6⟩, ⟨(rfl : x5.2.length - 0 = x5.2.length)⟩, ⟨(zadd_le ((cap_le c5) : x1.length ≤ x5.2.length))⟩, ⟨(len_map e_i64_s x5.2)⟩, ⟨c4⟩, ⟨(LT.block (ok_slices_DeleteFunc_l0 x1 x2 _ k (iadd .i64 x3 1) x3 x1 e2))⟩, ⟨c1⟩, ⟨(ok_slices_IndexFunc k x1 x2 _ e0)⟩] (by kernel_rfl)
                  · rw [if_neg c10] at h
                    replace c10 := eqf c10
                    cases h
                · rw [if_neg c9] at h
                  replace c9 := eqf c9
                  cases h
              · rw [if_neg c8] at h
                replace c8 := eqf c8
                cases h
          · rw [if_neg c6] at h
            replace c6 := eqf c6
            cases h
        · rw [if_neg c5] at h
          replace c5 := eqf c5
          cases h
end Go.Ws
