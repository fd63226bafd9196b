/-
  The laws' arguments as plain data. (Printed by my own program.)
  Conditions: none.
-/
import Derived.Test.YtaddlnmhjlmneaaZPre
import Derived.Test.YtaddlnmhjlmneaaZWf
import Derived.Test.YtaddlnmhjlmneaaZB2
set_option linter.unusedVariables false
set_option linter.unusedSimpArgs false
namespace Go.Ws
open Go.Proofs
set_option linter.unusedSimpArgs false
set_option linter.unusedVariables false
set_option maxRecDepth 1000000
set_option maxHeartbeats 4000000

theorem argc_t5 : ∀ {n : Nat} {c : List AV}, ArgC Try.prog n 5 c → ∃ x, c = e_u8 x ∧ w_t5 x
  | 0, _, h => h.elim
  | n + 1, c, h => by
    have u : Try.prog.underlying 5 = some (.int .u8) := by kernel_rfl
    simp only [ArgC, u] at h
    obtain ⟨i, rfl, h⟩ := h
    exact ⟨i, rfl, by simpa [w_t5, IntKind.min, IntKind.max, IntKind.signed, IntKind.bits] using h⟩
theorem argv_t5 {n : Nat} {v : AV} (h : ArgV Try.prog n 5 v) : ∃ x, v = (.int .u8 x) ∧ w_t5 x := by
  have u : Try.prog.underlying 5 = some (.int .u8) := by kernel_rfl
  have h2 : ArgC Try.prog n 5 [v] := by simpa only [ArgV, u] using h
  obtain ⟨x, hx, w⟩ := argc_t5 h2
  exact ⟨x, (List.cons.inj hx).1, w⟩
theorem argc_t22 : ∀ {n : Nat} {c : List AV}, ArgC Try.prog n 22 c → ∃ x, c = e_Lu8E x ∧ w_t22 x
  | 0, _, h => h.elim
  | n + 1, c, h => by
    have u : Try.prog.underlying 22 = some (.slice 5) := by kernel_rfl
    simp only [ArgC, u] at h
    have k : Try.prog.cellsOf 5 = 1 := by kernel_rfl
    obtain ⟨rows, rfl, hl, hr⟩ := h
    obtain ⟨L, rfl, hL⟩ := rows_of e_u8 w_t5 rows (fun row m => argc_t5 (hr row m).2)
    exact ⟨L, by rw [k]; rfl, by simpa using hl, hL⟩
theorem argv_t22 {n : Nat} {v : AV} (h : ArgV Try.prog n 22 v) : ∃ x, v = (.sl 1 (List.map e_u8 x)) ∧ w_t22 x := by
  have u : Try.prog.underlying 22 = some (.slice 5) := by kernel_rfl
  have h2 : ArgC Try.prog n 22 [v] := by simpa only [ArgV, u] using h
  obtain ⟨x, hx, w⟩ := argc_t22 h2
  exact ⟨x, (List.cons.inj hx).1, w⟩
def e_i64 (x : Int) : List AV := [(.int .i64 x)]
theorem argc_t3 : ∀ {n : Nat} {c : List AV}, ArgC Try.prog n 3 c → ∃ x, c = e_i64 x ∧ w_t3 x
  | 0, _, h => h.elim
  | n + 1, c, h => by
    have u : Try.prog.underlying 3 = some (.int .i64) := by kernel_rfl
    simp only [ArgC, u] at h
    obtain ⟨i, rfl, h⟩ := h
    exact ⟨i, rfl, by simpa [w_t3, IntKind.min, IntKind.max, IntKind.signed, IntKind.bits] using h⟩
theorem argv_t3 {n : Nat} {v : AV} (h : ArgV Try.prog n 3 v) : ∃ x, v = (.int .i64 x) ∧ w_t3 x := by
  have u : Try.prog.underlying 3 = some (.int .i64) := by kernel_rfl
  have h2 : ArgC Try.prog n 3 [v] := by simpa only [ArgV, u] using h
  obtain ⟨x, hx, w⟩ := argc_t3 h2
  exact ⟨x, (List.cons.inj hx).1, w⟩
def e_Lu8E_i64_i64 (x : (List Int) × Int × Int) : List AV := [(.sl 1 (List.map e_u8 x.1)), (.int .i64 x.2.1), (.int .i64 x.2.2)]
theorem argc_t24 : ∀ {n : Nat} {c : List AV}, ArgC Try.prog n 24 c → ∃ x, c = e_Lu8E_i64_i64 x ∧ w_t24 x
  | 0, _, h => h.elim
  | n + 1, c, h => by
    have u : Try.prog.underlying 24 = some (.struct (Try.prog.fieldsOf 24)) := by kernel_rfl
    have f : (Try.prog.fieldsOf 24).toList.map (fun f => (f.offset, f.type)) = [(0, 22), (1, 3), (2, 3)] := by kernel_rfl
    have k : Try.prog.cellsOf 24 = 3 := by kernel_rfl
    simp only [ArgC, u] at h
    obtain ⟨hl, hf⟩ := h
    rw [k] at hl
    have g : ∀ p ∈ [((0 : Nat), (22 : Nat)), ((1 : Nat), (3 : Nat)), ((2 : Nat), (3 : Nat))], ArgC Try.prog n p.2 ((c.drop p.1).take (Try.prog.cellsOf p.2)) := by
      rw [← f]; intro p hp; obtain ⟨f0, m0, rfl⟩ := List.mem_map.1 hp; exact hf f0 m0
    match c, hl with
    | [a0, a1, a2], _ =>
      have k0 : Try.prog.cellsOf 22 = 1 := by kernel_rfl
      obtain ⟨y0, q0, p0⟩ := argc_t22 (g (0, 22) (by simp))
      rw [show (Try.prog.cellsOf (0, 22).2) = 1 from k0] at q0; replace q0 : [a0] = e_Lu8E y0 := q0
      have k1 : Try.prog.cellsOf 3 = 1 := by kernel_rfl
      obtain ⟨y1, q1, p1⟩ := argc_t3 (g (1, 3) (by simp))
      rw [show (Try.prog.cellsOf (1, 3).2) = 1 from k1] at q1; replace q1 : [a1] = e_i64 y1 := q1
      have k2 : Try.prog.cellsOf 3 = 1 := by kernel_rfl
      obtain ⟨y2, q2, p2⟩ := argc_t3 (g (2, 3) (by simp))
      rw [show (Try.prog.cellsOf (2, 3).2) = 1 from k2] at q2; replace q2 : [a2] = e_i64 y2 := q2
      refine ⟨(y0, y1, y2), ?_, p0, p1, p2⟩
      have q : [a0, a1, a2] = e_Lu8E y0 ++ e_i64 y1 ++ e_i64 y2 := by rw [← q0, ← q1, ← q2]; rfl
      exact q
theorem argv_t24 {n : Nat} {v : AV} (h : ArgV Try.prog n 24 v) : ∃ x, v = .agg (e_Lu8E_i64_i64 x) ∧ w_t24 x := by
  have u : Try.prog.underlying 24 = some (.struct (Try.prog.fieldsOf 24)) := by kernel_rfl
  simp only [ArgV, u] at h
  obtain ⟨c, rfl, h⟩ := h
  obtain ⟨x, rfl, w⟩ := argc_t24 h
  exact ⟨x, rfl, w⟩
def e_u16 (x : Int) : List AV := [(.int .u16 x)]
theorem argc_t25 : ∀ {n : Nat} {c : List AV}, ArgC Try.prog n 25 c → ∃ x, c = e_u16 x ∧ w_t25 x
  | 0, _, h => h.elim
  | n + 1, c, h => by
    have u : Try.prog.underlying 25 = some (.int .u16) := by kernel_rfl
    simp only [ArgC, u] at h
    obtain ⟨i, rfl, h⟩ := h
    exact ⟨i, rfl, by simpa [w_t25, IntKind.min, IntKind.max, IntKind.signed, IntKind.bits] using h⟩
theorem argv_t25 {n : Nat} {v : AV} (h : ArgV Try.prog n 25 v) : ∃ x, v = (.int .u16 x) ∧ w_t25 x := by
  have u : Try.prog.underlying 25 = some (.int .u16) := by kernel_rfl
  have h2 : ArgC Try.prog n 25 [v] := by simpa only [ArgV, u] using h
  obtain ⟨x, hx, w⟩ := argc_t25 h2
  exact ⟨x, (List.cons.inj hx).1, w⟩
def e_LLu8EE (x : List (List Int)) : List AV := [(.sl 1 (List.map e_Lu8E x))]
theorem argc_t34 : ∀ {n : Nat} {c : List AV}, ArgC Try.prog n 34 c → ∃ x, c = e_LLu8EE x ∧ w_t34 x
  | 0, _, h => h.elim
  | n + 1, c, h => by
    have u : Try.prog.underlying 34 = some (.slice 22) := by kernel_rfl
    simp only [ArgC, u] at h
    have k : Try.prog.cellsOf 22 = 1 := by kernel_rfl
    obtain ⟨rows, rfl, hl, hr⟩ := h
    obtain ⟨L, rfl, hL⟩ := rows_of e_Lu8E w_t22 rows (fun row m => argc_t22 (hr row m).2)
    exact ⟨L, by rw [k]; rfl, by simpa using hl, hL⟩
theorem argv_t34 {n : Nat} {v : AV} (h : ArgV Try.prog n 34 v) : ∃ x, v = (.sl 1 (List.map e_Lu8E x)) ∧ w_t34 x := by
  have u : Try.prog.underlying 34 = some (.slice 22) := by kernel_rfl
  have h2 : ArgC Try.prog n 34 [v] := by simpa only [ArgV, u] using h
  obtain ⟨x, hx, w⟩ := argc_t34 h2
  exact ⟨x, (List.cons.inj hx).1, w⟩
def e_u16_u16 (x : Int × Int) : List AV := [(.int .u16 x.1), (.int .u16 x.2)]
theorem argc_t50 : ∀ {n : Nat} {c : List AV}, ArgC Try.prog n 50 c → ∃ x, c = e_u16_u16 x ∧ w_t50 x
  | 0, _, h => h.elim
  | n + 1, c, h => by
    have u : Try.prog.underlying 50 = some (.array 2 25) := by kernel_rfl
    have k : Try.prog.cellsOf 25 = 1 := by kernel_rfl
    simp only [ArgC, u, k] at h
    obtain ⟨hl, g⟩ := h
    match c, hl with
    | [a0, a1], _ =>
      obtain ⟨y0, q0, p0⟩ := argc_t25 (g 0 (by decide))
      replace q0 : [a0] = e_u16 y0 := q0
      obtain ⟨y1, q1, p1⟩ := argc_t25 (g 1 (by decide))
      replace q1 : [a1] = e_u16 y1 := q1
      refine ⟨(y0, y1), ?_, p0, p1⟩
      have q : [a0, a1] = e_u16 y0 ++ e_u16 y1 := by rw [← q0, ← q1]; rfl
      exact q
theorem argv_t50 {n : Nat} {v : AV} (h : ArgV Try.prog n 50 v) : ∃ x, v = .agg (e_u16_u16 x) ∧ w_t50 x := by
  have u : Try.prog.underlying 50 = some (.array 2 25) := by kernel_rfl
  simp only [ArgV, u] at h
  obtain ⟨c, rfl, h⟩ := h
  obtain ⟨x, rfl, w⟩ := argc_t50 h
  exact ⟨x, rfl, w⟩
end Go.Ws
