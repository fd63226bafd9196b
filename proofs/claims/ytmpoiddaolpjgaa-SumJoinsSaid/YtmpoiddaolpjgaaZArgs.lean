/-
  The laws' arguments as plain data. (Printed by my own program.)
  Conditions: none.
-/
import Derived.Test.YtmpoiddaolpjgaaZPre
import Derived.Test.YtmpoiddaolpjgaaZWf
import Derived.Test.YtmpoiddaolpjgaaZB2
set_option linter.unusedVariables false
set_option linter.unusedSimpArgs false
namespace Go.Ws
open Go.Proofs
set_option linter.unusedSimpArgs false
set_option linter.unusedVariables false
set_option maxRecDepth 1000000
set_option maxHeartbeats 4000000

theorem argc_t5 : ∀ {n : Nat} {c : List AV}, ArgC Try.prog n 5 c → ∃ x, c = e_u8 x ∧ w_t5 x
  | 0, _, h => h.elim
  | n + 1, c, h => by
    have u : Try.prog.underlying 5 = some (.int .u8) := by kernel_rfl
    simp only [ArgC, u] at h
    obtain ⟨i, rfl, h⟩ := h
    exact ⟨i, rfl, by simpa [w_t5, IntKind.min, IntKind.max, IntKind.signed, IntKind.bits] using h⟩
theorem argv_t5 {n : Nat} {v : AV} (h : ArgV Try.prog n 5 v) : ∃ x, v = (.int .u8 x) ∧ w_t5 x := by
  have u : Try.prog.underlying 5 = some (.int .u8) := by kernel_rfl
  have h2 : ArgC Try.prog n 5 [v] := by simpa only [ArgV, u] using h
  obtain ⟨x, hx, w⟩ := argc_t5 h2
  exact ⟨x, (List.cons.inj hx).1, w⟩
theorem argc_t22 : ∀ {n : Nat} {c : List AV}, ArgC Try.prog n 22 c → ∃ x, c = e_Lu8E x ∧ w_t22 x
  | 0, _, h => h.elim
  | n + 1, c, h => by
    have u : Try.prog.underlying 22 = some (.slice 5) := by kernel_rfl
    simp only [ArgC, u] at h
    have k : Try.prog.cellsOf 5 = 1 := by kernel_rfl
    obtain ⟨rows, rfl, hl, hr⟩ := h
    obtain ⟨L, rfl, hL⟩ := rows_of e_u8 w_t5 rows (fun row m => argc_t5 (hr row m).2)
    exact ⟨L, by rw [k]; rfl, by simpa using hl, hL⟩
theorem argv_t22 {n : Nat} {v : AV} (h : ArgV Try.prog n 22 v) : ∃ x, v = (.sl 1 (List.map e_u8 x)) ∧ w_t22 x := by
  have u : Try.prog.underlying 22 = some (.slice 5) := by kernel_rfl
  have h2 : ArgC Try.prog n 22 [v] := by simpa only [ArgV, u] using h
  obtain ⟨x, hx, w⟩ := argc_t22 h2
  exact ⟨x, (List.cons.inj hx).1, w⟩
def e_LLu8EE (x : List (List Int)) : List AV := [(.sl 1 (List.map e_Lu8E x))]
theorem argc_t36 : ∀ {n : Nat} {c : List AV}, ArgC Try.prog n 36 c → ∃ x, c = e_LLu8EE x ∧ w_t36 x
  | 0, _, h => h.elim
  | n + 1, c, h => by
    have u : Try.prog.underlying 36 = some (.slice 22) := by kernel_rfl
    simp only [ArgC, u] at h
    have k : Try.prog.cellsOf 22 = 1 := by kernel_rfl
    obtain ⟨rows, rfl, hl, hr⟩ := h
    obtain ⟨L, rfl, hL⟩ := rows_of e_Lu8E w_t22 rows (fun row m => argc_t22 (hr row m).2)
    exact ⟨L, by rw [k]; rfl, by simpa using hl, hL⟩
theorem argv_t36 {n : Nat} {v : AV} (h : ArgV Try.prog n 36 v) : ∃ x, v = (.sl 1 (List.map e_Lu8E x)) ∧ w_t36 x := by
  have u : Try.prog.underlying 36 = some (.slice 22) := by kernel_rfl
  have h2 : ArgC Try.prog n 36 [v] := by simpa only [ArgV, u] using h
  obtain ⟨x, hx, w⟩ := argc_t36 h2
  exact ⟨x, (List.cons.inj hx).1, w⟩
def e_u16 (x : Int) : List AV := [(.int .u16 x)]
theorem argc_t40 : ∀ {n : Nat} {c : List AV}, ArgC Try.prog n 40 c → ∃ x, c = e_u16 x ∧ w_t40 x
  | 0, _, h => h.elim
  | n + 1, c, h => by
    have u : Try.prog.underlying 40 = some (.int .u16) := by kernel_rfl
    simp only [ArgC, u] at h
    obtain ⟨i, rfl, h⟩ := h
    exact ⟨i, rfl, by simpa [w_t40, IntKind.min, IntKind.max, IntKind.signed, IntKind.bits] using h⟩
theorem argv_t40 {n : Nat} {v : AV} (h : ArgV Try.prog n 40 v) : ∃ x, v = (.int .u16 x) ∧ w_t40 x := by
  have u : Try.prog.underlying 40 = some (.int .u16) := by kernel_rfl
  have h2 : ArgC Try.prog n 40 [v] := by simpa only [ArgV, u] using h
  obtain ⟨x, hx, w⟩ := argc_t40 h2
  exact ⟨x, (List.cons.inj hx).1, w⟩
end Go.Ws
