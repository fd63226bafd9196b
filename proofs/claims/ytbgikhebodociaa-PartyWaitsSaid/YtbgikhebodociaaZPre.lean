/-
  The seat's functions on the abstract machine: types, tables. (Printed by my own program.)
  Conditions: none.
-/
import Derived.Test.YtbgikhebodociaaRows
import Derived.Test.YtbgikhebodociaaZB2
import Derived.Test.YtbgikhebodociaaZB1
import Derived.KernelRfl
set_option linter.unusedVariables false
set_option linter.unusedSimpArgs false
namespace Go.Ws
open Go.Proofs
set_option linter.unusedSimpArgs false
set_option linter.unusedVariables false
set_option maxRecDepth 100000
set_option maxHeartbeats 4000000

noncomputable def F : Nat → Option Func
  | 6 => some Try.f6
  | 8 => some Try.f8
  | 9 => some Try.f9
  | 10 => some Try.f10
  | 13 => some Try.f13
  | 15 => some Try.f15
  | 16 => some Try.f16
  | 17 => some Try.f17
  | 18 => some Try.f18
  | 19 => some Try.f19
  | 20 => some Try.f20
  | 21 => some Try.f21
  | _ => none
noncomputable def TT : Nat → Option TI := tiOf Try.prog
theorem t3 : TT 3 = some ⟨.int .i64, 1, 8, some (.int .i64 0), true⟩ := by kernel_rfl
theorem t5 : TT 5 = some ⟨.int .u8, 1, 1, some (.int .u8 0), true⟩ := by kernel_rfl
theorem t9 : TT 9 = some ⟨.str, 1, 16, some (.str ⟨#[]⟩), true⟩ := by kernel_rfl
theorem t23 : TT 23 = some ⟨.struct [(0, 3), (1, 9)], 2, 24, some (.agg [(.int .i64 0), (.str ⟨#[]⟩)]), true⟩ := by kernel_rfl
theorem t26 : TT 26 = some ⟨.struct [(0, 3)], 1, 8, some (.agg [(.int .i64 0)]), true⟩ := by kernel_rfl
theorem t30 : TT 30 = some ⟨.struct [(0, 3), (1, 9)], 2, 24, some (.agg [(.int .i64 0), (.str ⟨#[]⟩)]), true⟩ := by kernel_rfl
theorem t31 : TT 31 = some ⟨.struct [(0, 3)], 1, 8, some (.agg [(.int .i64 0)]), true⟩ := by kernel_rfl
theorem t37 : TT 37 = some ⟨.slice 30, 1, 24, some .nils, true⟩ := by kernel_rfl
theorem t39 : TT 39 = some ⟨.struct [(0, 3), (1, 37), (2, 3)], 3, 40, some (.agg [(.int .i64 0), .nils, (.int .i64 0)]), true⟩ := by kernel_rfl
theorem t40 : TT 40 = some ⟨.slice 9, 1, 24, some .nils, true⟩ := by kernel_rfl
theorem t50 : TT 50 = some ⟨.slice 5, 1, 24, some .nils, true⟩ := by kernel_rfl
theorem t60 : TT 60 = some ⟨.func, 1, 8, some .nilf, true⟩ := by kernel_rfl
def e_i64_s (x : Int × ByteArray) : List AV := [(.int .i64 x.1), (.str x.2)]
def NS13_10 : NSpec := ⟨[(3, []), (39, []), (40, []), (41, [])], [], false⟩
def NS13_1 : NSpec := ⟨[], [], false⟩
def NS21_4 : NSpec := ⟨[(0, []), (1, []), (7, []), (8, [])], [], false⟩
def NS21_1 : NSpec := ⟨[], [], false⟩
def NS19_10 : NSpec := ⟨[(0, []), (1, []), (5, []), (6, [])], [], false⟩
def NS19_1 : NSpec := ⟨[(0, []), (5, [])], [], false⟩
def NS6_46 : NSpec := ⟨[(1, []), (5, []), (6, []), (15, []), (29, []), (30, []), (31, []), (101, []), (102, []), (103, [])], [(.tmp 5, []), (.tmp 6, [])], false⟩
def NS6_5 : NSpec := ⟨[(1, []), (5, []), (6, []), (29, []), (30, []), (31, [])], [(.tmp 5, []), (.tmp 6, [])], false⟩
def NS6_16 : NSpec := ⟨[(1, []), (5, []), (6, []), (29, []), (30, []), (31, [])], [(.tmp 5, [1]), (.tmp 6, [])], false⟩
def NS6_1 : NSpec := ⟨[(5, []), (6, [])], [(.tmp 5, []), (.tmp 6, [])], false⟩
noncomputable def prg : Prg := ⟨F, fun _ => none, fun a b => if b = 18 then (true, false) else if b = 19 then (false, false) else if b = 21 then (false, false) else (true, true), fun f id => if f = 13 then (if id = 10 then some NS13_10 else if id = 1 then some NS13_1 else none) else if f = 21 then (if id = 4 then some NS21_4 else if id = 1 then some NS21_1 else none) else if f = 19 then (if id = 10 then some NS19_10 else if id = 1 then some NS19_1 else none) else if f = 6 then (if id = 46 then some NS6_46 else if id = 5 then some NS6_5 else if id = 16 then some NS6_16 else if id = 1 then some NS6_1 else none) else none, fun f => if f = 18 then some 2 else none⟩
theorem N6 : ∀ id, prg.N 6 id = (if id = 46 then some NS6_46 else if id = 5 then some NS6_5 else if id = 16 then some NS6_16 else if id = 1 then some NS6_1 else none) := fun _ => rfl
theorem N8 : ∀ id, prg.N 8 id = ( none) := fun _ => rfl
theorem N9 : ∀ id, prg.N 9 id = ( none) := fun _ => rfl
theorem N10 : ∀ id, prg.N 10 id = ( none) := fun _ => rfl
theorem N13 : ∀ id, prg.N 13 id = (if id = 10 then some NS13_10 else if id = 1 then some NS13_1 else none) := fun _ => rfl
theorem N15 : ∀ id, prg.N 15 id = ( none) := fun _ => rfl
theorem N16 : ∀ id, prg.N 16 id = ( none) := fun _ => rfl
theorem N17 : ∀ id, prg.N 17 id = ( none) := fun _ => rfl
theorem N18 : ∀ id, prg.N 18 id = ( none) := fun _ => rfl
theorem N19 : ∀ id, prg.N 19 id = (if id = 10 then some NS19_10 else if id = 1 then some NS19_1 else none) := fun _ => rfl
theorem N20 : ∀ id, prg.N 20 id = ( none) := fun _ => rfl
theorem N21 : ∀ id, prg.N 21 id = (if id = 4 then some NS21_4 else if id = 1 then some NS21_1 else none) := fun _ => rfl
theorem C6_8 : prg.C 6 8 = (true, true) := rfl
theorem C6_15 : prg.C 6 15 = (true, true) := rfl
theorem C6_16 : prg.C 6 16 = (true, true) := rfl
theorem C9_17 : prg.C 9 17 = (true, true) := rfl
theorem C13_17 : prg.C 13 17 = (true, true) := rfl
theorem C15_13 : prg.C 15 13 = (true, true) := rfl
theorem C15_18 : prg.C 15 18 = (true, false) := rfl
theorem C16_13 : prg.C 16 13 = (true, true) := rfl
theorem C16_18 : prg.C 16 18 = (true, false) := rfl
theorem C16_19 : prg.C 16 19 = (false, false) := rfl
theorem C19_20 : prg.C 19 20 = (true, true) := rfl
theorem C19_21 : prg.C 19 21 = (false, false) := rfl
theorem C21_20 : prg.C 21 20 = (true, true) := rfl
theorem alive_ok : acall TT prg 60 true 8 [] [] = some ((.bool true), []) := by kernel_rfl
theorem own : ownKnob Try.prog.godebug = none := by kernel_rfl
theorem laid : laidOutB Try.prog = true := by kernel_rfl
theorem rowed : mapsRowed Try.prog = true := by kernel_rfl
theorem full : ((List.range Try.prog.types.size).all fun t => match Try.prog.underlying t with | some (.slice e) => decide (0 < Try.prog.cellsOf e) | _ => true) = true := by kernel_rfl
theorem F_ok (f : Nat) (fn : Func) (h : F f = some fn) : Try.prog.funcs[f]? = some fn ∧ (fn.name == "runtime.NumGoroutine") = false := by
  unfold F at h
  split at h <;> first | (cases h; done) | (simp only [Option.some.injEq] at h; subst h; exact ⟨by first | exact Try.func6 | exact Try.func8 | exact Try.func9 | exact Try.func10 | exact Try.func13 | exact Try.func15 | exact Try.func16 | exact Try.func17 | exact Try.func18 | exact Try.func19 | exact Try.func20 | exact Try.func21, by decide +kernel⟩)
theorem isBool : Try.prog.underlying 4 = some .bool := by kernel_rfl
theorem prgOK : PrgOK Try.prog prg := ⟨by kernel_rfl, F_ok, fun f g h => by cases h⟩
end Go.Ws
