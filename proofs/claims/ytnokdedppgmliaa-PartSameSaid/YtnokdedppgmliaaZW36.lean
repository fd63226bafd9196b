/-
  slices_Grow: what the machine makes of it. (Printed by my own program.)
  Conditions: none.
-/
import Derived.Test.YtnokdedppgmliaaZPre
import Derived.Test.YtnokdedppgmliaaZPure
set_option linter.unusedVariables false
set_option linter.unusedSimpArgs false
namespace Go.Ws
open Go.Proofs
set_option linter.unusedSimpArgs false
set_option linter.unusedVariables false
set_option maxRecDepth 1000000
set_option maxHeartbeats 4000000
noncomputable def X36 : Ctx := ⟨Try.f36, [], false⟩
theorem ok_slices_Grow (k : Nat) (x1 : Int) (r : (List (Int × Int))) (h : slices_Grow k x1 = some r) : Tri Try.prog 36 [.nils, (.int .i64 x1)] [] (.ref 2 0 0 0 r.length .virt) [(.arr 2 (List.map e_u8_i64 r) 0 0 false)] := by
    unfold slices_Grow at h
    by_cases c0 : ltI x1 0 = true
    · rw [if_pos c0] at h
      cases h
    · rw [if_neg c0] at h
      replace c0 := eqf c0
      by_cases c1 : ltI 0 (isub .i64 x1 0) = true
      · rw [if_pos c1] at h
        by_cases c2 : lenI (isub .i64 x1 0) 16 = true
        · rw [if_pos c2] at h
          by_cases c3 : roomI ((tN (isub .i64 x1 0)) * 16) = true
          · rw [if_pos c3] at h
            by_cases c4 : isZ (tN (isub .i64 x1 0)) = true
            · rw [if_pos c4] at h
              cases h
            · rw [if_neg c4] at h
              replace c4 := eqf c4
              by_cases c5 : capI 0 ((List.replicate (tN (isub .i64 x1 0)) (0, 0)).length) = true
              · rw [if_pos c5] at h
                obtain rfl := Option.some.inj h
                exact Tri.of (x := X36) mixed facts36 [.d false, .d true, .rows (List.map e_u8_i64 (List.replicate (tN (isub .i64 x1 0)) (0, 0))), .n (tN (isub .i64 x1 0)), .d false, .n (tN (isub .i64 x1 0)), .n (tN (isub .i64 x1 0)), .n 0, .n 0, .norm 0 ⟨[(4, [])], [⟨.tmp 4, [], some 2⟩], false, [], []⟩, .n ((List.take 0 (List.replicate (tN (isub .i64 x1 0)) (0, 0))).length), .rows (List.map e_u8_i64 (List.take 0 (List.replicate (tN (isub .i64 x1 0)) (0, 0))))] [⟨(take_map e_u8_i64 (List.replicate (tN (isub .i64 x1 0)) (0, 0)) 0)⟩, ⟨((take_len (cap_le c5)) : 0 = (List.take 0 (List.replicate (tN (isub .i64 x1 0)) (0, 0))).length)⟩, ⟨(zle 0)⟩, ⟨(rfl : 0 - 0 = 0)⟩, ⟨((Nat.zero_add _) : 0 + 0 = 0)⟩, ⟨(leI_zero (tN (isub .i64 x1 0)))⟩, ⟨(rfl : (tN (isub .i64 x1 0)) - 0 = tN (isub .i64 x1 0))⟩, ⟨(zadd_le (Nat.le_refl _ : tN (isub .i64 x1 0) ≤ tN (isub .i64 x1 0)))⟩, ⟨(len_mapE e_u8_i64 ((by simp : tN (isub .i64 x1 0) = List.length (α := Int × Int) (List.replicate (tN (isub .i64 x1 0)) (0, 0)))).symm)⟩, ⟨c4⟩, ⟨c3⟩, ⟨(len_mapE e_u8_i64 ((by simp : tN (isub .i64 x1 0) = List.length (α := Int × Int) (List.replicate (tN (isub .i64 x1 0)) (0, 0)))).symm)⟩, ⟨(rep_map e_u8_i64 (tN (isub .i64 x1 0)) (0, 0))⟩, ⟨c2⟩, ⟨c1⟩, ⟨c0⟩] (by kernel_rfl)
              · rw [if_neg c5] at h
                replace c5 := eqf c5
                cases h
          · rw [if_neg c3] at h
            replace c3 := eqf c3
            cases h
        · rw [if_neg c2] at h
          replace c2 := eqf c2
          cases h
      · rw [if_neg c1] at h
        replace c1 := eqf c1
        obtain rfl := Option.some.inj h
        exact Tri.of (x := X36) mixed facts36 [.d false, .d false, .norm 0 ⟨[(4, [])], [⟨.tmp 4, [], some 2⟩], false, [], []⟩, .n 0, .rows (List.map e_u8_i64 [])] [⟨(take_all e_u8_i64 (l := []) (n := 0) rfl)⟩, ⟨(rfl : 0 = 0)⟩, ⟨(zle 0)⟩, ⟨c1⟩, ⟨c0⟩] (by kernel_rfl)
end Go.Ws
