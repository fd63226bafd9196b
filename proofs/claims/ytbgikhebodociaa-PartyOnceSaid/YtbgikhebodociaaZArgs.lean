/-
  The laws' arguments as plain data. (Printed by my own program.)
  Conditions: none.
-/
import Derived.Test.YtbgikhebodociaaZPre
import Derived.Test.YtbgikhebodociaaZWf
import Derived.Test.YtbgikhebodociaaZB2
set_option linter.unusedVariables false
set_option linter.unusedSimpArgs false
namespace Go.Ws
open Go.Proofs
set_option linter.unusedSimpArgs false
set_option linter.unusedVariables false
set_option maxRecDepth 1000000
set_option maxHeartbeats 4000000

theorem argc_t5 : ∀ {n : Nat} {c : List AV}, ArgC Try.prog n 5 c → ∃ x, c = e_u8 x ∧ w_t5 x
  | 0, _, h => h.elim
  | n + 1, c, h => by
    have u : Try.prog.underlying 5 = some (.int .u8) := by kernel_rfl
    simp only [ArgC, u] at h
    obtain ⟨i, rfl, h⟩ := h
    exact ⟨i, rfl, by simpa [w_t5, IntKind.min, IntKind.max, IntKind.signed, IntKind.bits] using h⟩
theorem argv_t5 {n : Nat} {v : AV} (h : ArgV Try.prog n 5 v) : ∃ x, v = (.int .u8 x) ∧ w_t5 x := by
  have u : Try.prog.underlying 5 = some (.int .u8) := by kernel_rfl
  have h2 : ArgC Try.prog n 5 [v] := by simpa only [ArgV, u] using h
  obtain ⟨x, hx, w⟩ := argc_t5 h2
  exact ⟨x, (List.cons.inj hx).1, w⟩
theorem argc_t9 : ∀ {n : Nat} {c : List AV}, ArgC Try.prog n 9 c → ∃ x, c = e_str x ∧ w_t9 x
  | 0, _, h => h.elim
  | n + 1, c, h => by
    have u : Try.prog.underlying 9 = some (.string) := by kernel_rfl
    simp only [ArgC, u] at h
    obtain ⟨i, rfl, h⟩ := h
    exact ⟨i, rfl, h⟩
theorem argv_t9 {n : Nat} {v : AV} (h : ArgV Try.prog n 9 v) : ∃ x, v = (.str x) ∧ w_t9 x := by
  have u : Try.prog.underlying 9 = some (.string) := by kernel_rfl
  have h2 : ArgC Try.prog n 9 [v] := by simpa only [ArgV, u] using h
  obtain ⟨x, hx, w⟩ := argc_t9 h2
  exact ⟨x, (List.cons.inj hx).1, w⟩
def e_u16 (x : Int) : List AV := [(.int .u16 x)]
theorem argc_t43 : ∀ {n : Nat} {c : List AV}, ArgC Try.prog n 43 c → ∃ x, c = e_u16 x ∧ w_t43 x
  | 0, _, h => h.elim
  | n + 1, c, h => by
    have u : Try.prog.underlying 43 = some (.int .u16) := by kernel_rfl
    simp only [ArgC, u] at h
    obtain ⟨i, rfl, h⟩ := h
    exact ⟨i, rfl, by simpa [w_t43, IntKind.min, IntKind.max, IntKind.signed, IntKind.bits] using h⟩
theorem argv_t43 {n : Nat} {v : AV} (h : ArgV Try.prog n 43 v) : ∃ x, v = (.int .u16 x) ∧ w_t43 x := by
  have u : Try.prog.underlying 43 = some (.int .u16) := by kernel_rfl
  have h2 : ArgC Try.prog n 43 [v] := by simpa only [ArgV, u] using h
  obtain ⟨x, hx, w⟩ := argc_t43 h2
  exact ⟨x, (List.cons.inj hx).1, w⟩
theorem argc_t45 : ∀ {n : Nat} {c : List AV}, ArgC Try.prog n 45 c → ∃ x, c = e_u8_s_u16 x ∧ w_t45 x
  | 0, _, h => h.elim
  | n + 1, c, h => by
    have u : Try.prog.underlying 45 = some (.struct (Try.prog.fieldsOf 45)) := by kernel_rfl
    have f : (Try.prog.fieldsOf 45).toList.map (fun f => (f.offset, f.type)) = [(0, 5), (1, 9), (2, 43)] := by kernel_rfl
    have k : Try.prog.cellsOf 45 = 3 := by kernel_rfl
    simp only [ArgC, u] at h
    obtain ⟨hl, hf⟩ := h
    rw [k] at hl
    have g : ∀ p ∈ [((0 : Nat), (5 : Nat)), ((1 : Nat), (9 : Nat)), ((2 : Nat), (43 : Nat))], ArgC Try.prog n p.2 ((c.drop p.1).take (Try.prog.cellsOf p.2)) := by
      rw [← f]; intro p hp; obtain ⟨f0, m0, rfl⟩ := List.mem_map.1 hp; exact hf f0 m0
    match c, hl with
    | [a0, a1, a2], _ =>
      have k0 : Try.prog.cellsOf 5 = 1 := by kernel_rfl
      obtain ⟨y0, q0, p0⟩ := argc_t5 (g (0, 5) (by simp))
      rw [show (Try.prog.cellsOf (0, 5).2) = 1 from k0] at q0; replace q0 : [a0] = e_u8 y0 := q0
      have k1 : Try.prog.cellsOf 9 = 1 := by kernel_rfl
      obtain ⟨y1, q1, p1⟩ := argc_t9 (g (1, 9) (by simp))
      rw [show (Try.prog.cellsOf (1, 9).2) = 1 from k1] at q1; replace q1 : [a1] = e_str y1 := q1
      have k2 : Try.prog.cellsOf 43 = 1 := by kernel_rfl
      obtain ⟨y2, q2, p2⟩ := argc_t43 (g (2, 43) (by simp))
      rw [show (Try.prog.cellsOf (2, 43).2) = 1 from k2] at q2; replace q2 : [a2] = e_u16 y2 := q2
      refine ⟨(y0, y1, y2), ?_, p0, p1, p2⟩
      have q : [a0, a1, a2] = e_u8 y0 ++ e_str y1 ++ e_u16 y2 := by rw [← q0, ← q1, ← q2]; rfl
      exact q
theorem argv_t45 {n : Nat} {v : AV} (h : ArgV Try.prog n 45 v) : ∃ x, v = .agg (e_u8_s_u16 x) ∧ w_t45 x := by
  have u : Try.prog.underlying 45 = some (.struct (Try.prog.fieldsOf 45)) := by kernel_rfl
  simp only [ArgV, u] at h
  obtain ⟨c, rfl, h⟩ := h
  obtain ⟨x, rfl, w⟩ := argc_t45 h
  exact ⟨x, rfl, w⟩
def e_Lu8su16E (x : List (Int × ByteArray × Int)) : List AV := [(.sl 3 (List.map e_u8_s_u16 x))]
theorem argc_t35 : ∀ {n : Nat} {c : List AV}, ArgC Try.prog n 35 c → ∃ x, c = e_Lu8su16E x ∧ w_t35 x
  | 0, _, h => h.elim
  | n + 1, c, h => by
    have u : Try.prog.underlying 35 = some (.slice 45) := by kernel_rfl
    simp only [ArgC, u] at h
    have k : Try.prog.cellsOf 45 = 3 := by kernel_rfl
    obtain ⟨rows, rfl, hl, hr⟩ := h
    obtain ⟨L, rfl, hL⟩ := rows_of e_u8_s_u16 w_t45 rows (fun row m => argc_t45 (hr row m).2)
    exact ⟨L, by rw [k]; rfl, by simpa using hl, hL⟩
theorem argv_t35 {n : Nat} {v : AV} (h : ArgV Try.prog n 35 v) : ∃ x, v = (.sl 3 (List.map e_u8_s_u16 x)) ∧ w_t35 x := by
  have u : Try.prog.underlying 35 = some (.slice 45) := by kernel_rfl
  have h2 : ArgC Try.prog n 35 [v] := by simpa only [ArgV, u] using h
  obtain ⟨x, hx, w⟩ := argc_t35 h2
  exact ⟨x, (List.cons.inj hx).1, w⟩
end Go.Ws
