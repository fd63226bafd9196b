/-
  Party: what each of its functions comes to on the abstract machine; that any packet makes of one who hears what the document says.
  Conditions: none.
-/
import Derived.Test.YtpfhlkhdmikdaaaRows
import Derived.Test.YtpfhlkhdmikdaaaZOpen
import Derived.Test.YtpfhlkhdmikdaaaZSym
import Derived.KernelRfl
namespace Go.Ws
open Go.Proofs
set_option linter.unusedSimpArgs false
set_option linter.unusedVariables false
noncomputable def F : Nat → Option Func
  | 3 => some Try.f3 | 7 => some Try.f7 | 10 => some Try.f10
  | 8 => some Try.f8 | 9 => some Try.f9 | 13 => some Try.f13 | 15 => some Try.f15 | 16 => some Try.f16 | 17 => some Try.f17 | 18 => some Try.f18 | 19 => some Try.f19 | 20 => some Try.f20 | 21 => some Try.f21
  | _ => none
noncomputable def TT : Nat → Option TI := tiOf Try.prog
theorem t3 : TT 3 = some ⟨.int .i64, 1, 8, some (.int .i64 0), true⟩ := by kernel_rfl
theorem t4 : TT 4 = some ⟨.bool, 1, 1, some (.bool false), true⟩ := by kernel_rfl
theorem t9 : TT 9 = some ⟨.str, 1, 16, some (.str ⟨#[]⟩), true⟩ := by kernel_rfl
theorem t23 : TT 23 = some ⟨.struct [(0,3),(1,9)], 2, 24, some (.agg [.int .i64 0, .str ⟨#[]⟩]), true⟩ := by kernel_rfl
theorem t26 : TT 26 = some ⟨.struct [(0,3)], 1, 8, some (.agg [.int .i64 0]), true⟩ := by kernel_rfl
theorem t30 : TT 30 = some ⟨.struct [(0,3),(1,9)], 2, 24, some (.agg [.int .i64 0, .str ⟨#[]⟩]), true⟩ := by kernel_rfl
theorem t31 : TT 31 = some ⟨.struct [(0,3)], 1, 8, some (.agg [.int .i64 0]), true⟩ := by kernel_rfl
theorem t27 : TT 27 = some ⟨.int .i64, 1, 8, some (.int .i64 0), true⟩ := by kernel_rfl
noncomputable def prg : Prg := ⟨F, fun _ => none, fun a b => if b = 18 then (true, false) else if b = 19 ∨ b = 21 then (false, false) else (true, true)⟩
theorem c9 : prg.C 9 17 = (true, true) := rfl
theorem c3 : prg.C 3 8 = (true, true) ∧ prg.C 3 9 = (true, true) ∧ prg.C 3 10 = (true, true) := ⟨rfl, rfl, rfl⟩
theorem r17 (k frz args h) : acall TT prg (k+1) frz 17 args h = finish TT Try.f17.results.toList h.length frz (exec TT (acall TT prg k) (prg.C 17) k (Try.f17.body.getD .skip) (begin args Try.f17.ntmps h)) := acall_run TT prg k frz 17 args h rfl rfl rfl
theorem r9 (k frz args h) : acall TT prg (k+1) frz 9 args h = finish TT Try.f9.results.toList h.length frz (exec TT (acall TT prg k) (prg.C 9) k (Try.f9.body.getD .skip) (begin args Try.f9.ntmps h)) := acall_run TT prg k frz 9 args h rfl rfl rfl
theorem r10 (k frz args h) : acall TT prg (k+1) frz 10 args h = finish TT Try.f10.results.toList h.length frz (exec TT (acall TT prg k) (prg.C 10) k (Try.f10.body.getD .skip) (begin args Try.f10.ntmps h)) := acall_run TT prg k frz 10 args h rfl rfl rfl
theorem r3 (k frz args h) : acall TT prg (k+1) frz 3 args h = finish TT Try.f3.results.toList h.length frz (exec TT (acall TT prg k) (prg.C 3) k (Try.f3.body.getD .skip) (begin args Try.f3.ntmps h)) := acall_run TT prg k frz 3 args h rfl rfl rfl
theorem alive : acall TT prg 40 true 8 [] [] = some (.bool true, []) := by kernel_rfl
set_option maxRecDepth 100000
set_option maxHeartbeats 2000000
theorem num (k : Nat) (n : Int) : acall TT prg (k+1) true 17 [.int .i64 n] [] = some (.bool (decide (0 ≤ n ∧ n ≤ 1048576)), []) := by
  by_cases h : 0 ≤ n <;>
  simp [r17, Try.f17, finish, begin, exec, runRegion, runOps, runOpsD, stepF, wantedA, aop, evA, ofVal, ofScalar, St.after, putA, upd, AM.of, AM.bind, AM.val, AM.run, aBin, aIntOp, upOk, resVals, resVal, resTup, final, frzV, frzL, frzBs, newIds, AV.refs, AV.ren, aUn, evL, evP, evO, aBox, aFieldAddr, aLoad, aStore, aBuiltin, aLen, callOp, borrowL, borrowV, borrowC, reach, AV.refsL, AV.renL, AV.cells, AV.one, setAt, mkVal, TI.isAgg, lenOf, aBuild, aFill, aAlloc, aEq, fieldsEq, scEq, aConvert, backId, edgesOk, feetOk, befs, befOne, feet, footOf, looks, Op.operands, Call.operands, Foot.apart, disj, Region.binds, List.range, List.range.loop, isArr, Nat.testBit, ba_eq, h]
def hearR (a s : Int) (t : ByteArray) : Int × ByteArray × Int :=
  if ¬(0 ≤ a ∧ a ≤ 1048576) ∨ ¬(0 ≤ s ∧ s ≤ 1048576) ∨ (t.size : Int) > 500 then (a, ⟨#[]⟩, 2) else if s < a then (a, ⟨#[]⟩, 10) else if s > a then (a, ⟨#[]⟩, 7) else (a + 1, t, 0)
theorem wrap1 {a : Int} (h : 0 ≤ a ∧ a ≤ 1048576) : IntKind.i64.wrap (a + 1) = a + 1 := by
  simp [IntKind.wrap, IntKind.bits, IntKind.signed]; omega
theorem hear9 (k : Nat) (a s : Int) (t : ByteArray) : acall TT prg (k+2) true 9 [.agg [.int .i64 a], .agg [.int .i64 s, .str t]] [] = some (.tup [.agg [.int .i64 (hearR a s t).1], .str (hearR a s t).2.1, .int .i64 (hearR a s t).2.2], []) := by
  unfold hearR
  by_cases h1 : 0 ≤ a ∧ a ≤ 1048576
  case neg =>
    simp [num, r9, Try.f9, c9, t3, t4, t9, t26, t30, t27, h1, finish, begin, exec, runRegion, runOps, runOpsD, stepF, wantedA, aop, evA, ofVal, ofScalar, St.after, putA, upd, AM.of, AM.bind, AM.val, AM.run, aBin, aIntOp, upOk, resVals, resVal, resTup, final, frzV, frzL, frzBs, newIds, AV.refs, AV.ren, aUn, evL, evP, evO, aBox, aFieldAddr, aLoad, aStore, aBuiltin, aLen, callOp, borrowL, borrowV, borrowC, reach, AV.refsL, AV.renL, AV.cells, AV.one, setAt, mkVal, TI.isAgg, lenOf, aBuild, aFill, aAlloc, aEq, fieldsEq, scEq, aConvert, backId, edgesOk, feetOk, befs, befOne, feet, footOf, looks, Op.operands, Call.operands, Foot.apart, disj, Region.binds, List.range, List.range.loop, isArr, Nat.testBit, ba_eq]
  have hw := wrap1 h1
  by_cases h2 : 0 ≤ s ∧ s ≤ 1048576
  case neg =>
    simp [num, r9, Try.f9, c9, t3, t4, t9, t26, t30, t27, h1, h2, finish, begin, exec, runRegion, runOps, runOpsD, stepF, wantedA, aop, evA, ofVal, ofScalar, St.after, putA, upd, AM.of, AM.bind, AM.val, AM.run, aBin, aIntOp, upOk, resVals, resVal, resTup, final, frzV, frzL, frzBs, newIds, AV.refs, AV.ren, aUn, evL, evP, evO, aBox, aFieldAddr, aLoad, aStore, aBuiltin, aLen, callOp, borrowL, borrowV, borrowC, reach, AV.refsL, AV.renL, AV.cells, AV.one, setAt, mkVal, TI.isAgg, lenOf, aBuild, aFill, aAlloc, aEq, fieldsEq, scEq, aConvert, backId, edgesOk, feetOk, befs, befOne, feet, footOf, looks, Op.operands, Call.operands, Foot.apart, disj, Region.binds, List.range, List.range.loop, isArr, Nat.testBit, ba_eq]
  by_cases h3 : (500 : Int) < t.size
  case pos =>
    simp [num, r9, Try.f9, c9, t3, t4, t9, t26, t30, t27, h1, h2, h3, finish, begin, exec, runRegion, runOps, runOpsD, stepF, wantedA, aop, evA, ofVal, ofScalar, St.after, putA, upd, AM.of, AM.bind, AM.val, AM.run, aBin, aIntOp, upOk, resVals, resVal, resTup, final, frzV, frzL, frzBs, newIds, AV.refs, AV.ren, aUn, evL, evP, evO, aBox, aFieldAddr, aLoad, aStore, aBuiltin, aLen, callOp, borrowL, borrowV, borrowC, reach, AV.refsL, AV.renL, AV.cells, AV.one, setAt, mkVal, TI.isAgg, lenOf, aBuild, aFill, aAlloc, aEq, fieldsEq, scEq, aConvert, backId, edgesOk, feetOk, befs, befOne, feet, footOf, looks, Op.operands, Call.operands, Foot.apart, disj, Region.binds, List.range, List.range.loop, isArr, Nat.testBit, ba_eq]
  by_cases h4 : s < a
  case pos =>
    simp [num, r9, Try.f9, c9, t3, t4, t9, t26, t30, t27, h1, h2, h3, h4, finish, begin, exec, runRegion, runOps, runOpsD, stepF, wantedA, aop, evA, ofVal, ofScalar, St.after, putA, upd, AM.of, AM.bind, AM.val, AM.run, aBin, aIntOp, upOk, resVals, resVal, resTup, final, frzV, frzL, frzBs, newIds, AV.refs, AV.ren, aUn, evL, evP, evO, aBox, aFieldAddr, aLoad, aStore, aBuiltin, aLen, callOp, borrowL, borrowV, borrowC, reach, AV.refsL, AV.renL, AV.cells, AV.one, setAt, mkVal, TI.isAgg, lenOf, aBuild, aFill, aAlloc, aEq, fieldsEq, scEq, aConvert, backId, edgesOk, feetOk, befs, befOne, feet, footOf, looks, Op.operands, Call.operands, Foot.apart, disj, Region.binds, List.range, List.range.loop, isArr, Nat.testBit, ba_eq]
  by_cases h5 : a < s
  case pos =>
    simp [num, r9, Try.f9, c9, t3, t4, t9, t26, t30, t27, h1, h2, h3, h4, h5, finish, begin, exec, runRegion, runOps, runOpsD, stepF, wantedA, aop, evA, ofVal, ofScalar, St.after, putA, upd, AM.of, AM.bind, AM.val, AM.run, aBin, aIntOp, upOk, resVals, resVal, resTup, final, frzV, frzL, frzBs, newIds, AV.refs, AV.ren, aUn, evL, evP, evO, aBox, aFieldAddr, aLoad, aStore, aBuiltin, aLen, callOp, borrowL, borrowV, borrowC, reach, AV.refsL, AV.renL, AV.cells, AV.one, setAt, mkVal, TI.isAgg, lenOf, aBuild, aFill, aAlloc, aEq, fieldsEq, scEq, aConvert, backId, edgesOk, feetOk, befs, befOne, feet, footOf, looks, Op.operands, Call.operands, Foot.apart, disj, Region.binds, List.range, List.range.loop, isArr, Nat.testBit, ba_eq]
  simp [num, r9, Try.f9, c9, t3, t4, t9, t26, t30, t27, h1, h2, h3, h4, h5, hw, finish, begin, exec, runRegion, runOps, runOpsD, stepF, wantedA, aop, evA, ofVal, ofScalar, St.after, putA, upd, AM.of, AM.bind, AM.val, AM.run, aBin, aIntOp, upOk, resVals, resVal, resTup, final, frzV, frzL, frzBs, newIds, AV.refs, AV.ren, aUn, evL, evP, evO, aBox, aFieldAddr, aLoad, aStore, aBuiltin, aLen, callOp, borrowL, borrowV, borrowC, reach, AV.refsL, AV.renL, AV.cells, AV.one, setAt, mkVal, TI.isAgg, lenOf, aBuild, aFill, aAlloc, aEq, fieldsEq, scEq, aConvert, backId, edgesOk, feetOk, befs, befOne, feet, footOf, looks, Op.operands, Call.operands, Foot.apart, disj, Region.binds, List.range, List.range.loop, isArr, Nat.testBit, ba_eq]
theorem hear10 (k : Nat) (a s : Int) (t : ByteArray) : acall TT prg (k+2) true 10 [.agg [.int .i64 a], .agg [.int .i64 s, .str t]] [] = some (.tup [.agg [.int .i64 (hearR a s t).1], .str (hearR a s t).2.1, .int .i64 (hearR a s t).2.2], []) := by
  unfold hearR
  by_cases h1 : 0 ≤ a ∧ a ≤ 1048576
  case neg =>
    by_cases h0 : a < 0
    · simp [num, r10, Try.f10, t3, t4, t9, t23, t31, h1, h0, finish, begin, exec, runRegion, runOps, runOpsD, stepF, wantedA, aop, evA, ofVal, ofScalar, St.after, putA, upd, AM.of, AM.bind, AM.val, AM.run, aBin, aIntOp, upOk, resVals, resVal, resTup, final, frzV, frzL, frzBs, newIds, AV.refs, AV.ren, aUn, evL, evP, evO, aBox, aFieldAddr, aLoad, aStore, aBuiltin, aLen, callOp, borrowL, borrowV, borrowC, reach, AV.refsL, AV.renL, AV.cells, AV.one, setAt, mkVal, TI.isAgg, lenOf, aBuild, aFill, aAlloc, aEq, fieldsEq, scEq, aConvert, backId, edgesOk, feetOk, befs, befOne, feet, footOf, looks, Op.operands, Call.operands, Foot.apart, disj, Region.binds, List.range, List.range.loop, isArr, Nat.testBit, ba_eq]
    · have h1' : 1048576 < a := by omega
      simp [num, r10, Try.f10, t3, t4, t9, t23, t31, h1, h0, h1', finish, begin, exec, runRegion, runOps, runOpsD, stepF, wantedA, aop, evA, ofVal, ofScalar, St.after, putA, upd, AM.of, AM.bind, AM.val, AM.run, aBin, aIntOp, upOk, resVals, resVal, resTup, final, frzV, frzL, frzBs, newIds, AV.refs, AV.ren, aUn, evL, evP, evO, aBox, aFieldAddr, aLoad, aStore, aBuiltin, aLen, callOp, borrowL, borrowV, borrowC, reach, AV.refsL, AV.renL, AV.cells, AV.one, setAt, mkVal, TI.isAgg, lenOf, aBuild, aFill, aAlloc, aEq, fieldsEq, scEq, aConvert, backId, edgesOk, feetOk, befs, befOne, feet, footOf, looks, Op.operands, Call.operands, Foot.apart, disj, Region.binds, List.range, List.range.loop, isArr, Nat.testBit, ba_eq]
  have hw := wrap1 h1
  have h1a : ¬ a < 0 := by omega
  have h1b : ¬ 1048576 < a := by omega
  by_cases h2 : 0 ≤ s ∧ s ≤ 1048576
  case neg =>
    by_cases h0 : s < 0
    · simp [num, r10, Try.f10, t3, t4, t9, t23, t31, h1, h1a, h1b, h2, h0, finish, begin, exec, runRegion, runOps, runOpsD, stepF, wantedA, aop, evA, ofVal, ofScalar, St.after, putA, upd, AM.of, AM.bind, AM.val, AM.run, aBin, aIntOp, upOk, resVals, resVal, resTup, final, frzV, frzL, frzBs, newIds, AV.refs, AV.ren, aUn, evL, evP, evO, aBox, aFieldAddr, aLoad, aStore, aBuiltin, aLen, callOp, borrowL, borrowV, borrowC, reach, AV.refsL, AV.renL, AV.cells, AV.one, setAt, mkVal, TI.isAgg, lenOf, aBuild, aFill, aAlloc, aEq, fieldsEq, scEq, aConvert, backId, edgesOk, feetOk, befs, befOne, feet, footOf, looks, Op.operands, Call.operands, Foot.apart, disj, Region.binds, List.range, List.range.loop, isArr, Nat.testBit, ba_eq]
    · have h1' : 1048576 < s := by omega
      simp [num, r10, Try.f10, t3, t4, t9, t23, t31, h1, h1a, h1b, h2, h0, h1', finish, begin, exec, runRegion, runOps, runOpsD, stepF, wantedA, aop, evA, ofVal, ofScalar, St.after, putA, upd, AM.of, AM.bind, AM.val, AM.run, aBin, aIntOp, upOk, resVals, resVal, resTup, final, frzV, frzL, frzBs, newIds, AV.refs, AV.ren, aUn, evL, evP, evO, aBox, aFieldAddr, aLoad, aStore, aBuiltin, aLen, callOp, borrowL, borrowV, borrowC, reach, AV.refsL, AV.renL, AV.cells, AV.one, setAt, mkVal, TI.isAgg, lenOf, aBuild, aFill, aAlloc, aEq, fieldsEq, scEq, aConvert, backId, edgesOk, feetOk, befs, befOne, feet, footOf, looks, Op.operands, Call.operands, Foot.apart, disj, Region.binds, List.range, List.range.loop, isArr, Nat.testBit, ba_eq]
  have h2a : ¬ s < 0 := by omega
  have h2b : ¬ 1048576 < s := by omega
  by_cases h3 : (500 : Int) < t.size
  case pos =>
    simp [r10, Try.f10, t3, t4, t9, t23, t31, h1, h2, h1a, h1b, h2a, h2b, h3, finish, begin, exec, runRegion, runOps, runOpsD, stepF, wantedA, aop, evA, ofVal, ofScalar, St.after, putA, upd, AM.of, AM.bind, AM.val, AM.run, aBin, aIntOp, upOk, resVals, resVal, resTup, final, frzV, frzL, frzBs, newIds, AV.refs, AV.ren, aUn, evL, evP, evO, aBox, aFieldAddr, aLoad, aStore, aBuiltin, aLen, callOp, borrowL, borrowV, borrowC, reach, AV.refsL, AV.renL, AV.cells, AV.one, setAt, mkVal, TI.isAgg, lenOf, aBuild, aFill, aAlloc, aEq, fieldsEq, scEq, aConvert, backId, edgesOk, feetOk, befs, befOne, feet, footOf, looks, Op.operands, Call.operands, Foot.apart, disj, Region.binds, List.range, List.range.loop, isArr, Nat.testBit, ba_eq]
  by_cases h4 : s < a
  case pos =>
    simp [r10, Try.f10, t3, t4, t9, t23, t31, h1, h2, h1a, h1b, h2a, h2b, h3, h4, finish, begin, exec, runRegion, runOps, runOpsD, stepF, wantedA, aop, evA, ofVal, ofScalar, St.after, putA, upd, AM.of, AM.bind, AM.val, AM.run, aBin, aIntOp, upOk, resVals, resVal, resTup, final, frzV, frzL, frzBs, newIds, AV.refs, AV.ren, aUn, evL, evP, evO, aBox, aFieldAddr, aLoad, aStore, aBuiltin, aLen, callOp, borrowL, borrowV, borrowC, reach, AV.refsL, AV.renL, AV.cells, AV.one, setAt, mkVal, TI.isAgg, lenOf, aBuild, aFill, aAlloc, aEq, fieldsEq, scEq, aConvert, backId, edgesOk, feetOk, befs, befOne, feet, footOf, looks, Op.operands, Call.operands, Foot.apart, disj, Region.binds, List.range, List.range.loop, isArr, Nat.testBit, ba_eq]
  by_cases h5 : a < s
  case pos =>
    simp [r10, Try.f10, t3, t4, t9, t23, t31, h1, h2, h1a, h1b, h2a, h2b, h3, h4, h5, finish, begin, exec, runRegion, runOps, runOpsD, stepF, wantedA, aop, evA, ofVal, ofScalar, St.after, putA, upd, AM.of, AM.bind, AM.val, AM.run, aBin, aIntOp, upOk, resVals, resVal, resTup, final, frzV, frzL, frzBs, newIds, AV.refs, AV.ren, aUn, evL, evP, evO, aBox, aFieldAddr, aLoad, aStore, aBuiltin, aLen, callOp, borrowL, borrowV, borrowC, reach, AV.refsL, AV.renL, AV.cells, AV.one, setAt, mkVal, TI.isAgg, lenOf, aBuild, aFill, aAlloc, aEq, fieldsEq, scEq, aConvert, backId, edgesOk, feetOk, befs, befOne, feet, footOf, looks, Op.operands, Call.operands, Foot.apart, disj, Region.binds, List.range, List.range.loop, isArr, Nat.testBit, ba_eq]
  simp [r10, Try.f10, t3, t4, t9, t23, t31, h1, h2, h1a, h1b, h2a, h2b, h3, h4, h5, hw, finish, begin, exec, runRegion, runOps, runOpsD, stepF, wantedA, aop, evA, ofVal, ofScalar, St.after, putA, upd, AM.of, AM.bind, AM.val, AM.run, aBin, aIntOp, upOk, resVals, resVal, resTup, final, frzV, frzL, frzBs, newIds, AV.refs, AV.ren, aUn, evL, evP, evO, aBox, aFieldAddr, aLoad, aStore, aBuiltin, aLen, callOp, borrowL, borrowV, borrowC, reach, AV.refsL, AV.renL, AV.cells, AV.one, setAt, mkVal, TI.isAgg, lenOf, aBuild, aFill, aAlloc, aEq, fieldsEq, scEq, aConvert, backId, edgesOk, feetOk, befs, befOne, feet, footOf, looks, Op.operands, Call.operands, Foot.apart, disj, Region.binds, List.range, List.range.loop, isArr, Nat.testBit, ba_eq]

theorem own : ownKnob Try.prog.godebug = none := by kernel_rfl
theorem laid : laidOutB Try.prog = true := by kernel_rfl
theorem rowed : mapsRowed Try.prog = true := by kernel_rfl
theorem full : ((List.range Try.prog.types.size).all fun t => match Try.prog.underlying t with | some (.slice e) => decide (0 < Try.prog.cellsOf e) | _ => true) = true := by kernel_rfl
theorem isBool : Try.prog.underlying 4 = some .bool := by kernel_rfl
theorem F_ok (f : Nat) (fn : Func) (h : F f = some fn) : Try.prog.funcs[f]? = some fn ∧ (fn.name == "runtime.NumGoroutine") = false := by
  unfold F at h
  split at h <;> first | (cases h; done) | (simp only [Option.some.injEq] at h; subst h; exact ⟨by first | exact Try.func3 | exact Try.func7 | exact Try.func8 | exact Try.func9 | exact Try.func10 | exact Try.func13 | exact Try.func15 | exact Try.func16 | exact Try.func17 | exact Try.func18 | exact Try.func19 | exact Try.func20 | exact Try.func21, by decide +kernel⟩)
theorem prgOK : PrgOK Try.prog prg := ⟨by kernel_rfl, F_ok, fun f g h => by cases h⟩
end Go.Ws
