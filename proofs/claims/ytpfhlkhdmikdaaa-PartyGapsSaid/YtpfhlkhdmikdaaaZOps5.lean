/-
  append: the model's run, and what the abstract machine makes of it.
  Conditions: none.
-/
import Derived.Test.YtpfhlkhdmikdaaaZOps4
namespace Go.Ws
set_option linter.unusedVariables false
set_option linter.unusedSimpArgs false

def Same (w w1 : World) : Prop := ∀ B o v, w.cell? ⟨B, o, none⟩ = some v → w1.cell? ⟨B, o, none⟩ = some v

/-- What is appended: k elements, their cells. -/
def AppSrc (P : Program) (w : World) (inf : TypeInfo) (z : Value) (dx : TypeDesc) (x : Value) (k : Nat) (news : List Value) : Prop :=
  ((∀ kk, dx ≠ .int kk) ∧ ∀ w1, Same w w1 → (Builtin.lenOf x).run P w1 = .ok k w1 ∧ (Builtin.firstCells inf.size k x).run P w1 = .ok news.toArray w1) ∨
  (∃ kk kv q, dx = .int kk ∧ x = .int kv q ∧ 0 ≤ q ∧ q * inf.bytes ≤ 140737488355328 ∧ k = q.toNat ∧ news.toArray = Builtin.zeroCells z.cells k)

theorem wrap_small {q : Int} (h0 : 0 ≤ q) (h1 : q ≤ 140737488355328) : IntKind.i64.wrap q = q := by
  have e1 : q % (2 ^ IntKind.i64.bits : Int) = q := Int.emod_eq_of_lt h0 (by simp only [IntKind.bits]; omega)
  have e2 : ¬ (q ≥ (2 ^ (IntKind.i64.bits - 1) : Int)) := by simp only [IntKind.bits]; omega
  unfold IntKind.wrap
  simp only [e1, e2, decide_false, Bool.and_false, Bool.false_eq_true, if_false]

theorem app_as {P : Program} {w : World} {t xt ty e : TypeId} {dx : TypeDesc} (ht : P.underlying t = some (.slice e)) (hxt : P.underlying xt = some dx) (hd : ∀ kk, dx ≠ .int kk) (s x : Value) : (Builtin.append_ #[t, xt] ty #[s, x]).run P w = (Builtin.append_ #[t, t] ty #[s, x]).run P w := by
  unfold Builtin.append_
  simp only [show (#[t, xt] : Array TypeId)[0]? = some t from rfl, show (#[t, xt] : Array TypeId)[1]? = some xt from rfl, show (#[t, t] : Array TypeId)[0]? = some t from rfl, show (#[t, t] : Array TypeId)[1]? = some t from rfl, show (#[s, x] : Array Value)[0]? = some s from rfl, show (#[s, x] : Array Value)[1]? = some x from rfl]
  rw [Sem.run_bind, Sem.run_bind, run_underlying ht]
  simp only [Result.andThen_ok]
  cases s <;> try rfl
  simp only []
  rw [Sem.run_bind, Sem.run_bind]
  congr 1
  funext size w1
  rw [Sem.run_bind, Sem.run_bind, run_underlying hxt, run_underlying ht]
  all_goals cases dx <;> first
    | rfl
    | exact absurd rfl (hd _)

section
variable {P : Program} {σ : Sig} {π : Prot} {w : World} {h : Nat → Option Blk} {n : Nat} {δ : Delta} {L : List Nat}
variable {t xt ty e : TypeId} {inf : TypeInfo} {z x : Value} {dx : TypeDesc} {k : Nat} {news : List Value}

theorem drew_same (w : World) : Same w w.drew := fun B o v h => h
theorem same_refl (w : World) : Same w w := fun _ _ _ h => h

theorem app_stay (ht : P.underlying t = some (.slice e)) (hxt : P.underlying xt = some dx) (hi : P.info? e = some inf) (hz : inf.zero = some z) (hb : 0 < inf.bytes)
    (hs : AppSrc P w inf z dx x 0 news) (a : Option Addr) (s c : Nat) (hsc : s ≤ c) :
    (Builtin.append_ #[t, xt] ty #[.slice a s c, x]).run P w = .ok (.slice a s c) w := by
  rcases hs with ⟨hd, hs⟩ | ⟨kk, kv, q, rfl, rfl, hq0, hq1, hk, hn⟩
  · obtain ⟨h1, h2⟩ := hs w (same_refl w)
    have hemp : news = [] ∨ a = none ∨ True := .inr (.inr trivial)
    have hnew : (Builtin.firstCells inf.size 0 x).run P w = .ok #[] w := by
      rw [h2]
      have : news = [] := by
        cases x with
        | slice a' l' c' => cases a' <;> simp [Builtin.firstCells, loadCells, loadCellsFrom] at h2 <;> simp_all
        | string s' =>
          have h3 : (#[] : Array Value) = news.toArray := by simpa [Builtin.firstCells] using h2
          have := congrArg Array.size h3
          simp at this
          exact List.eq_nil_of_length_eq_zero this.symm
        | _ => simp [Builtin.lenOf] at h1
      subst this
      rfl
    rw [app_as ht hxt hd]
    (cases a <;> simp [Builtin.append_, run_underlying ht, sizeOf, typeInfo, hi, h1, hsc, hnew, storeCells])
  · have hq : q = 0 := by omega
    subst hq
    cases a <;> simp [Builtin.append_, run_underlying ht, run_underlying hxt, sizeOf, typeInfo, hi, asInt, asIntOf, wrap_small, hsc, storeCells]

theorem app_room (ht : P.underlying t = some (.slice e)) (hxt : P.underlying xt = some dx) (hi : P.info? e = some inf) (hz : inf.zero = some z) (hb : 0 < inf.bytes) (hzs : z.cells.size = inf.size) (hsz : 0 < inf.size)
    (hs : AppSrc P w inf z dx x k news) (hnl : news.length = k * inf.size) (h1 : ∀ u ∈ news, u.oneCell' = true) (g s c : Nat) (cur : Array Value) (te : TypeId) (hg : w.heap[g]? = some (.cells cur te (0, 0)))
    (hroom : s + k ≤ c) (hfit : s * inf.size + news.length ≤ cur.size) :
    (Builtin.append_ #[t, xt] ty #[.slice (some ⟨g, 0, none⟩) s c, x]).run P w =
      .ok (.slice (some ⟨g, 0, none⟩) (s + k) c) (w.setRow g (cur.toList.take (s * inf.size) ++ news ++ cur.toList.drop (s * inf.size + news.length)).toArray) := by
  have hst := run_storeCells_at P g (s * inf.size) te news 0 cur w hg (by simpa using hfit) h1
  simp only [Nat.add_zero] at hst
  rcases hs with ⟨hd, hs⟩ | ⟨kk, kv, q, rfl, rfl, hq0, hq1, hk, hn⟩
  · obtain ⟨h2, h3⟩ := hs w (same_refl w)
    rw [app_as ht hxt hd]
    simp [Builtin.append_, run_underlying ht, sizeOf, typeInfo, hi, h2, hroom, h3, Addr.add_lit, hst]
  · have hqb : q ≤ 140737488355328 := Int.le_trans (by have := Int.mul_le_mul_of_nonneg_left (show (1 : Int) ≤ inf.bytes by omega) hq0; omega) hq1
    have hw := wrap_small hq0 hqb
    have hnneg : ¬ q < 0 := by omega
    have hbig : ¬ (281474976710656 < q * (inf.bytes : Int)) := by omega
    have hnew : news.toArray.toList = news := by simp
    subst hk
    by_cases hk0 : q.toNat = 0
    · have hne : news = [] := List.eq_nil_of_length_eq_zero (by rw [hnl, hk0]; simp)
      subst hne
      simp [hk0] at hst ⊢
      simp [Builtin.append_, run_underlying ht, run_underlying hxt, sizeOf, typeInfo, hi, asInt, asIntOf, hw, hnneg, hbig, hk0, show s ≤ c by omega, storeCells]
      rw [setRow_self w g cur te (0, 0) hg]
    · have hns : ¬ (q ≤ 0 ∨ inf.size = 0) := by omega
      have hns2 : ¬ (q.toNat * inf.size = 0) := by
        intro hh
        rcases Nat.mul_eq_zero.1 hh with h0 | h0 <;> omega
      simp [Builtin.append_, run_underlying ht, run_underlying hxt, sizeOf, typeInfo, zeroValue, hi, hz, asInt, asIntOf, hw, hnneg, hbig, hns, hns2, hroom, Addr.add_lit, ← hn, hst]

theorem app_grow (ht : P.underlying t = some (.slice e)) (hxt : P.underlying xt = some dx) (hi : P.info? e = some inf) (hz : inf.zero = some z) (hb : 0 < inf.bytes) (hzs : z.cells.size = inf.size) (hsz : 0 < inf.size)
    (hs : AppSrc P w inf z dx x k news) (hnl : news.length = k * inf.size) (a : Option Addr) (s c : Nat) (olds : List Value)
    (ho : (Builtin.firstCells inf.size s (.slice a s c)).run P w.drew = .ok olds.toArray w.drew) (hg : c < s + k) (hbytes : (s + k) * inf.bytes ≤ 140737488355328) :
    (Builtin.append_ #[t, xt] ty #[.slice a s c, x]).run P w =
      .ok (.slice (some ⟨w.heap.size, 0, none⟩) (s + k) (grownCap w (s + k) c e)) (w.drew.alloc (.cells (olds.toArray ++ news.toArray ++ Builtin.zeroCells z.cells (grownCap w (s + k) c e - (s + k))) e)) := by
  have hlen : s + k ≤ 140737488355328 := Nat.le_trans (Nat.le_mul_of_pos_right _ hb) hbytes
  have hn0 : ¬ (s + k ≤ c) := by omega
  have h63' : ¬ (9223372036854775807 < ((s : Int) + (k : Int))) := by omega
  have hfits : Builtin.nextslicecap (s + k) c * inf.bytes ≤ 281474976710656 := growslice_fits hg hbytes
  have h48' : ¬ (281474976710656 < Builtin.nextslicecap (s + k) c * inf.bytes) := by omega
  rcases hs with ⟨hd, hs⟩ | ⟨kk, kv, q, rfl, rfl, hq0, hq1, hk, hn⟩
  · obtain ⟨h2, h3⟩ := hs w (same_refl w)
    obtain ⟨h2', h3'⟩ := hs w.drew (drew_same w)
    rw [app_as ht hxt hd]
    (simp [Builtin.append_, run_underlying ht, sizeOf, typeInfo, zeroValue, hi, hz, h2, hn0, h63', h48', Question.forced, ho, h3', newRow, grownCap]; congr 2; apply Array.ext'; simp [List.append_assoc])
  · have hqb : q ≤ 140737488355328 := Int.le_trans (by have := Int.mul_le_mul_of_nonneg_left (show (1 : Int) ≤ inf.bytes by omega) hq0; omega) hq1
    have hw := wrap_small hq0 hqb
    have hnneg : ¬ q < 0 := by omega
    have hbig : ¬ (281474976710656 < q * (inf.bytes : Int)) := by omega
    subst hk
    by_cases hk0 : q.toNat = 0
    · have hne : news = [] := List.eq_nil_of_length_eq_zero (by rw [hnl, hk0]; simp)
      subst hne
      have hq00 : q = 0 := by omega
      subst hq00
      have h63'' : ¬ (9223372036854775807 < (s : Int)) := by omega
      simp only [Int.toNat_zero, Nat.add_zero] at *
      simp [Builtin.append_, run_underlying ht, run_underlying hxt, sizeOf, typeInfo, zeroValue, hi, hz, asInt, asIntOf, hw, hn0, h63'', h48', Question.forced, ho, newRow, grownCap]
    · have hns2 : ¬ (q.toNat * inf.size = 0) := by
        intro hh
        rcases Nat.mul_eq_zero.1 hh with h0 | h0 <;> omega
      have hns : ¬ (q ≤ 0 ∨ inf.size = 0) := by omega
      have hm : max q 0 = q := by omega
      have h63q : ¬ (9223372036854775807 < (s : Int) + q) := by omega
      simp [Builtin.append_, run_underlying ht, run_underlying hxt, sizeOf, typeInfo, zeroValue, hi, hz, asInt, asIntOf, hw, hnneg, hbig, hn0, hm, h63q, h48', hns, hns2, Question.forced, ho, ← hn, newRow, grownCap]
      congr 2
      apply Array.ext'
      simp [List.append_assoc]

end
end Go.Ws
