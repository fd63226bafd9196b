/-
  The abstract machine, one function at a time.
  Conditions: none.
-/
import Derived.Test.YtpfhlkhdmikdaaaZAbs
namespace Go.Ws

/-- What a function hands back. -/
def finish (T : Nat → Option TI) (rs : List ResultVar) (m : Nat) (frz : Bool) : Option (AX × St) → Option (AV × List Blk)
  | some (.exit _, _) => none
  | some (_, st) => match resVals T st rs with
    | some vs => final m frz (resTup vs) st.h
    | none => none
  | none => none

/-- A function's start. -/
def begin (args : List AV) (n : Nat) (h : List Blk) : St := ⟨args ++ List.replicate (n - args.length) undefA, h⟩

theorem acall_run (T : Nat → Option TI) (p : Prg) (k : Nat) (frz : Bool) (f : Nat) (args : List AV) (h : List Blk) {fn : Func} {c : Code} (hI : p.I f = none) (hF : p.F f = some fn) (hb : fn.body = some c) :
    acall T p (k + 1) frz f args h = finish T fn.results.toList h.length frz (exec T (acall T p k) (p.C f) k c (begin args fn.ntmps h)) := by
  simp only [acall, hI, hF, hb, begin]
  generalize exec T (acall T p k) (p.C f) k c _ = r
  rcases r with _ | ⟨x, st⟩
  · rfl
  · cases x <;> rfl

theorem ba_eq (a b : ByteArray) : (a == b) = decide (a = b) := by
  cases a with | mk a => cases b with | mk b =>
  show (a == b) = _
  rw [Bool.eq_iff_iff]
  simp
end Go.Ws
