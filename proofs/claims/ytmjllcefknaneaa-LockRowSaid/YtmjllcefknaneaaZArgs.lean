/-
  The laws' arguments as plain data. (Printed by my own program.)
  Conditions: none.
-/
import Derived.Test.YtmjllcefknaneaaZPre
import Derived.Test.YtmjllcefknaneaaZWf
import Derived.Test.YtmjllcefknaneaaZB2
set_option linter.unusedVariables false
set_option linter.unusedSimpArgs false
namespace Go.Ws
open Go.Proofs
set_option linter.unusedSimpArgs false
set_option linter.unusedVariables false
set_option maxRecDepth 1000000
set_option maxHeartbeats 4000000

theorem argc_t5 : ∀ {n : Nat} {c : List AV}, ArgC Try.prog n 5 c → ∃ x, c = e_u8 x ∧ w_t5 x
  | 0, _, h => h.elim
  | n + 1, c, h => by
    have u : Try.prog.underlying 5 = some (.int .u8) := by kernel_rfl
    simp only [ArgC, u] at h
    obtain ⟨i, rfl, h⟩ := h
    exact ⟨i, rfl, by simpa [w_t5, IntKind.min, IntKind.max, IntKind.signed, IntKind.bits] using h⟩
theorem argv_t5 {n : Nat} {v : AV} (h : ArgV Try.prog n 5 v) : ∃ x, v = (.int .u8 x) ∧ w_t5 x := by
  have u : Try.prog.underlying 5 = some (.int .u8) := by kernel_rfl
  have h2 : ArgC Try.prog n 5 [v] := by simpa only [ArgV, u] using h
  obtain ⟨x, hx, w⟩ := argc_t5 h2
  exact ⟨x, (List.cons.inj hx).1, w⟩
theorem argc_t3 : ∀ {n : Nat} {c : List AV}, ArgC Try.prog n 3 c → ∃ x, c = e_i64 x ∧ w_t3 x
  | 0, _, h => h.elim
  | n + 1, c, h => by
    have u : Try.prog.underlying 3 = some (.int .i64) := by kernel_rfl
    simp only [ArgC, u] at h
    obtain ⟨i, rfl, h⟩ := h
    exact ⟨i, rfl, by simpa [w_t3, IntKind.min, IntKind.max, IntKind.signed, IntKind.bits] using h⟩
theorem argv_t3 {n : Nat} {v : AV} (h : ArgV Try.prog n 3 v) : ∃ x, v = (.int .i64 x) ∧ w_t3 x := by
  have u : Try.prog.underlying 3 = some (.int .i64) := by kernel_rfl
  have h2 : ArgC Try.prog n 3 [v] := by simpa only [ArgV, u] using h
  obtain ⟨x, hx, w⟩ := argc_t3 h2
  exact ⟨x, (List.cons.inj hx).1, w⟩
def e_b (x : Bool) : List AV := [(.bool x)]
theorem argc_t4 : ∀ {n : Nat} {c : List AV}, ArgC Try.prog n 4 c → ∃ x, c = e_b x ∧ w_t4 x
  | 0, _, h => h.elim
  | n + 1, c, h => by
    have u : Try.prog.underlying 4 = some (.bool) := by kernel_rfl
    simp only [ArgC, u] at h
    obtain ⟨i, rfl⟩ := h
    exact ⟨i, rfl, trivial⟩
theorem argv_t4 {n : Nat} {v : AV} (h : ArgV Try.prog n 4 v) : ∃ x, v = (.bool x) ∧ w_t4 x := by
  have u : Try.prog.underlying 4 = some (.bool) := by kernel_rfl
  have h2 : ArgC Try.prog n 4 [v] := by simpa only [ArgV, u] using h
  obtain ⟨x, hx, w⟩ := argc_t4 h2
  exact ⟨x, (List.cons.inj hx).1, w⟩
theorem argc_t47 : ∀ {n : Nat} {c : List AV}, ArgC Try.prog n 47 c → ∃ x, c = e_u8_i64_b x ∧ w_t47 x
  | 0, _, h => h.elim
  | n + 1, c, h => by
    have u : Try.prog.underlying 47 = some (.struct (Try.prog.fieldsOf 47)) := by kernel_rfl
    have f : (Try.prog.fieldsOf 47).toList.map (fun f => (f.offset, f.type)) = [(0, 5), (1, 3), (2, 4)] := by kernel_rfl
    have k : Try.prog.cellsOf 47 = 3 := by kernel_rfl
    simp only [ArgC, u] at h
    obtain ⟨hl, hf⟩ := h
    rw [k] at hl
    have g : ∀ p ∈ [((0 : Nat), (5 : Nat)), ((1 : Nat), (3 : Nat)), ((2 : Nat), (4 : Nat))], ArgC Try.prog n p.2 ((c.drop p.1).take (Try.prog.cellsOf p.2)) := by
      rw [← f]; intro p hp; obtain ⟨f0, m0, rfl⟩ := List.mem_map.1 hp; exact hf f0 m0
    match c, hl with
    | [a0, a1, a2], _ =>
      have k0 : Try.prog.cellsOf 5 = 1 := by kernel_rfl
      obtain ⟨y0, q0, p0⟩ := argc_t5 (g (0, 5) (by simp))
      rw [show (Try.prog.cellsOf (0, 5).2) = 1 from k0] at q0; replace q0 : [a0] = e_u8 y0 := q0
      have k1 : Try.prog.cellsOf 3 = 1 := by kernel_rfl
      obtain ⟨y1, q1, p1⟩ := argc_t3 (g (1, 3) (by simp))
      rw [show (Try.prog.cellsOf (1, 3).2) = 1 from k1] at q1; replace q1 : [a1] = e_i64 y1 := q1
      have k2 : Try.prog.cellsOf 4 = 1 := by kernel_rfl
      obtain ⟨y2, q2, p2⟩ := argc_t4 (g (2, 4) (by simp))
      rw [show (Try.prog.cellsOf (2, 4).2) = 1 from k2] at q2; replace q2 : [a2] = e_b y2 := q2
      refine ⟨(y0, y1, y2), ?_, p0, p1, p2⟩
      have q : [a0, a1, a2] = e_u8 y0 ++ e_i64 y1 ++ e_b y2 := by rw [← q0, ← q1, ← q2]; rfl
      exact q
theorem argv_t47 {n : Nat} {v : AV} (h : ArgV Try.prog n 47 v) : ∃ x, v = .agg (e_u8_i64_b x) ∧ w_t47 x := by
  have u : Try.prog.underlying 47 = some (.struct (Try.prog.fieldsOf 47)) := by kernel_rfl
  simp only [ArgV, u] at h
  obtain ⟨c, rfl, h⟩ := h
  obtain ⟨x, rfl, w⟩ := argc_t47 h
  exact ⟨x, rfl, w⟩
def e_Lu8i64bE (x : List (Int × Int × Bool)) : List AV := [(.sl 3 (List.map e_u8_i64_b x))]
theorem argc_t22 : ∀ {n : Nat} {c : List AV}, ArgC Try.prog n 22 c → ∃ x, c = e_Lu8i64bE x ∧ w_t22 x
  | 0, _, h => h.elim
  | n + 1, c, h => by
    have u : Try.prog.underlying 22 = some (.slice 47) := by kernel_rfl
    simp only [ArgC, u] at h
    have k : Try.prog.cellsOf 47 = 3 := by kernel_rfl
    obtain ⟨rows, rfl, hl, hr⟩ := h
    obtain ⟨L, rfl, hL⟩ := rows_of e_u8_i64_b w_t47 rows (fun row m => argc_t47 (hr row m).2)
    exact ⟨L, by rw [k]; rfl, by simpa using hl, hL⟩
theorem argv_t22 {n : Nat} {v : AV} (h : ArgV Try.prog n 22 v) : ∃ x, v = (.sl 3 (List.map e_u8_i64_b x)) ∧ w_t22 x := by
  have u : Try.prog.underlying 22 = some (.slice 47) := by kernel_rfl
  have h2 : ArgC Try.prog n 22 [v] := by simpa only [ArgV, u] using h
  obtain ⟨x, hx, w⟩ := argc_t22 h2
  exact ⟨x, (List.cons.inj hx).1, w⟩
theorem argc_t24 : ∀ {n : Nat} {c : List AV}, ArgC Try.prog n 24 c → ∃ x, c = e_u8_i64_u8_b x ∧ w_t24 x
  | 0, _, h => h.elim
  | n + 1, c, h => by
    have u : Try.prog.underlying 24 = some (.struct (Try.prog.fieldsOf 24)) := by kernel_rfl
    have f : (Try.prog.fieldsOf 24).toList.map (fun f => (f.offset, f.type)) = [(0, 5), (1, 3), (2, 5), (3, 4)] := by kernel_rfl
    have k : Try.prog.cellsOf 24 = 4 := by kernel_rfl
    simp only [ArgC, u] at h
    obtain ⟨hl, hf⟩ := h
    rw [k] at hl
    have g : ∀ p ∈ [((0 : Nat), (5 : Nat)), ((1 : Nat), (3 : Nat)), ((2 : Nat), (5 : Nat)), ((3 : Nat), (4 : Nat))], ArgC Try.prog n p.2 ((c.drop p.1).take (Try.prog.cellsOf p.2)) := by
      rw [← f]; intro p hp; obtain ⟨f0, m0, rfl⟩ := List.mem_map.1 hp; exact hf f0 m0
    match c, hl with
    | [a0, a1, a2, a3], _ =>
      have k0 : Try.prog.cellsOf 5 = 1 := by kernel_rfl
      obtain ⟨y0, q0, p0⟩ := argc_t5 (g (0, 5) (by simp))
      rw [show (Try.prog.cellsOf (0, 5).2) = 1 from k0] at q0; replace q0 : [a0] = e_u8 y0 := q0
      have k1 : Try.prog.cellsOf 3 = 1 := by kernel_rfl
      obtain ⟨y1, q1, p1⟩ := argc_t3 (g (1, 3) (by simp))
      rw [show (Try.prog.cellsOf (1, 3).2) = 1 from k1] at q1; replace q1 : [a1] = e_i64 y1 := q1
      have k2 : Try.prog.cellsOf 5 = 1 := by kernel_rfl
      obtain ⟨y2, q2, p2⟩ := argc_t5 (g (2, 5) (by simp))
      rw [show (Try.prog.cellsOf (2, 5).2) = 1 from k2] at q2; replace q2 : [a2] = e_u8 y2 := q2
      have k3 : Try.prog.cellsOf 4 = 1 := by kernel_rfl
      obtain ⟨y3, q3, p3⟩ := argc_t4 (g (3, 4) (by simp))
      rw [show (Try.prog.cellsOf (3, 4).2) = 1 from k3] at q3; replace q3 : [a3] = e_b y3 := q3
      refine ⟨(y0, y1, y2, y3), ?_, p0, p1, p2, p3⟩
      have q : [a0, a1, a2, a3] = e_u8 y0 ++ e_i64 y1 ++ e_u8 y2 ++ e_b y3 := by rw [← q0, ← q1, ← q2, ← q3]; rfl
      exact q
theorem argv_t24 {n : Nat} {v : AV} (h : ArgV Try.prog n 24 v) : ∃ x, v = .agg (e_u8_i64_u8_b x) ∧ w_t24 x := by
  have u : Try.prog.underlying 24 = some (.struct (Try.prog.fieldsOf 24)) := by kernel_rfl
  simp only [ArgV, u] at h
  obtain ⟨c, rfl, h⟩ := h
  obtain ⟨x, rfl, w⟩ := argc_t24 h
  exact ⟨x, rfl, w⟩
def e_Lu8i64u8bE (x : List (Int × Int × Int × Bool)) : List AV := [(.sl 4 (List.map e_u8_i64_u8_b x))]
theorem argc_t43 : ∀ {n : Nat} {c : List AV}, ArgC Try.prog n 43 c → ∃ x, c = e_Lu8i64u8bE x ∧ w_t43 x
  | 0, _, h => h.elim
  | n + 1, c, h => by
    have u : Try.prog.underlying 43 = some (.slice 24) := by kernel_rfl
    simp only [ArgC, u] at h
    have k : Try.prog.cellsOf 24 = 4 := by kernel_rfl
    obtain ⟨rows, rfl, hl, hr⟩ := h
    obtain ⟨L, rfl, hL⟩ := rows_of e_u8_i64_u8_b w_t24 rows (fun row m => argc_t24 (hr row m).2)
    exact ⟨L, by rw [k]; rfl, by simpa using hl, hL⟩
theorem argv_t43 {n : Nat} {v : AV} (h : ArgV Try.prog n 43 v) : ∃ x, v = (.sl 4 (List.map e_u8_i64_u8_b x)) ∧ w_t43 x := by
  have u : Try.prog.underlying 43 = some (.slice 24) := by kernel_rfl
  have h2 : ArgC Try.prog n 43 [v] := by simpa only [ArgV, u] using h
  obtain ⟨x, hx, w⟩ := argc_t43 h2
  exact ⟨x, (List.cons.inj hx).1, w⟩
theorem argc_t50 : ∀ {n : Nat} {c : List AV}, ArgC Try.prog n 50 c → ∃ x, c = e_u16 x ∧ w_t50 x
  | 0, _, h => h.elim
  | n + 1, c, h => by
    have u : Try.prog.underlying 50 = some (.int .u16) := by kernel_rfl
    simp only [ArgC, u] at h
    obtain ⟨i, rfl, h⟩ := h
    exact ⟨i, rfl, by simpa [w_t50, IntKind.min, IntKind.max, IntKind.signed, IntKind.bits] using h⟩
theorem argv_t50 {n : Nat} {v : AV} (h : ArgV Try.prog n 50 v) : ∃ x, v = (.int .u16 x) ∧ w_t50 x := by
  have u : Try.prog.underlying 50 = some (.int .u16) := by kernel_rfl
  have h2 : ArgC Try.prog n 50 [v] := by simpa only [ArgV, u] using h
  obtain ⟨x, hx, w⟩ := argc_t50 h2
  exact ⟨x, (List.cons.inj hx).1, w⟩
def e_Lu16E (x : List Int) : List AV := [(.sl 1 (List.map e_u16 x))]
theorem argc_t48 : ∀ {n : Nat} {c : List AV}, ArgC Try.prog n 48 c → ∃ x, c = e_Lu16E x ∧ w_t48 x
  | 0, _, h => h.elim
  | n + 1, c, h => by
    have u : Try.prog.underlying 48 = some (.slice 50) := by kernel_rfl
    simp only [ArgC, u] at h
    have k : Try.prog.cellsOf 50 = 1 := by kernel_rfl
    obtain ⟨rows, rfl, hl, hr⟩ := h
    obtain ⟨L, rfl, hL⟩ := rows_of e_u16 w_t50 rows (fun row m => argc_t50 (hr row m).2)
    exact ⟨L, by rw [k]; rfl, by simpa using hl, hL⟩
theorem argv_t48 {n : Nat} {v : AV} (h : ArgV Try.prog n 48 v) : ∃ x, v = (.sl 1 (List.map e_u16 x)) ∧ w_t48 x := by
  have u : Try.prog.underlying 48 = some (.slice 50) := by kernel_rfl
  have h2 : ArgC Try.prog n 48 [v] := by simpa only [ArgV, u] using h
  obtain ⟨x, hx, w⟩ := argc_t48 h2
  exact ⟨x, (List.cons.inj hx).1, w⟩
def e_u16_u16 (x : Int × Int) : List AV := [(.int .u16 x.1), (.int .u16 x.2)]
theorem argc_t53 : ∀ {n : Nat} {c : List AV}, ArgC Try.prog n 53 c → ∃ x, c = e_u16_u16 x ∧ w_t53 x
  | 0, _, h => h.elim
  | n + 1, c, h => by
    have u : Try.prog.underlying 53 = some (.array 2 50) := by kernel_rfl
    have k : Try.prog.cellsOf 50 = 1 := by kernel_rfl
    simp only [ArgC, u, k] at h
    obtain ⟨hl, g⟩ := h
    match c, hl with
    | [a0, a1], _ =>
      obtain ⟨y0, q0, p0⟩ := argc_t50 (g 0 (by decide))
      replace q0 : [a0] = e_u16 y0 := q0
      obtain ⟨y1, q1, p1⟩ := argc_t50 (g 1 (by decide))
      replace q1 : [a1] = e_u16 y1 := q1
      refine ⟨(y0, y1), ?_, p0, p1⟩
      have q : [a0, a1] = e_u16 y0 ++ e_u16 y1 := by rw [← q0, ← q1]; rfl
      exact q
theorem argv_t53 {n : Nat} {v : AV} (h : ArgV Try.prog n 53 v) : ∃ x, v = .agg (e_u16_u16 x) ∧ w_t53 x := by
  have u : Try.prog.underlying 53 = some (.array 2 50) := by kernel_rfl
  simp only [ArgV, u] at h
  obtain ⟨c, rfl, h⟩ := h
  obtain ⟨x, rfl, w⟩ := argc_t53 h
  exact ⟨x, rfl, w⟩
end Go.Ws
