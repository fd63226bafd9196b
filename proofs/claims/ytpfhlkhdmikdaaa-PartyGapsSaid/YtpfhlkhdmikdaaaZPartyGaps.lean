/-
  PartyGaps: whatever the input, the law returns true and its arguments read as they did.
  Conditions: none.
-/
import Derived.Test.YtpfhlkhdmikdaaaZWalk
import Derived.JoinedOf
import Derived.JoinedAt
namespace Go.Ws
open Go.Proofs Go.ChangeShapes Go.WideShapes Go.ChangeAt Go.RowKit
set_option linter.unusedSimpArgs false
set_option linter.unusedVariables false
set_option maxRecDepth 100000
set_option maxHeartbeats 2000000
theorem t43 : TT 43 = some ⟨.int .u16, 1, 2, some (.int .u16 0), true⟩ := by kernel_rfl
theorem c7 : prg.C 7 8 = (true, true) ∧ prg.C 7 9 = (true, true) := ⟨rfl, rfl⟩
theorem r7 (k frz args h) : acall TT prg (k+1) frz 7 args h = finish TT Try.f7.results.toList h.length frz (exec TT (acall TT prg k) (prg.C 7) k (Try.f7.body.getD .skip) (begin args Try.f7.ntmps h)) := acall_run TT prg k frz 7 args h rfl rfl rfl
theorem law7 (a s : Int) (t : ByteArray) (ha : 0 ≤ a ∧ a ≤ 65535) : acall TT prg 41 true 7 [.int .u16 a, .agg [.int .i64 s, .str t]] [] = some (.bool true, []) := by
  have hw0 : IntKind.i64.wrap a = a := by simp [IntKind.wrap, IntKind.bits, IntKind.signed]; omega
  have hw := wrap1 (a := a) (by omega)
  by_cases h : (600 : Int) < t.size
  · simp [r7, Try.f7, alive, c7, t3, t4, t9, t23, t26, t30, t27, t31, t43, hw0, h, finish, begin, exec, runRegion, runOps, runOpsD, stepF, wantedA, aop, evA, ofVal, ofScalar, St.after, putA, upd, AM.of, AM.bind, AM.val, AM.run, aBin, aIntOp, upOk, resVals, resVal, resTup, final, frzV, frzL, frzBs, newIds, AV.refs, AV.ren, aUn, evL, evP, evO, aBox, aFieldAddr, aLoad, aStore, aBuiltin, aLen, callOp, borrowL, borrowV, borrowC, reach, AV.refsL, AV.renL, AV.cells, AV.one, setAt, mkVal, TI.isAgg, lenOf, aBuild, aFill, aAlloc, aEq, fieldsEq, scEq, aConvert, backId, edgesOk, feetOk, befs, befOne, feet, footOf, looks, Op.operands, Call.operands, Foot.apart, disj, Region.binds, List.range, List.range.loop, isArr, Nat.testBit, ba_eq]
  by_cases h1 : s = a
  · subst h1
    by_cases h2 : (t.size : Int) ≤ 500
    · have hr : hearR s s t = (s + 1, t, 0) := by
        unfold hearR
        rw [if_neg (by omega), if_neg (by omega), if_neg (by omega)]
      simp [r7, Try.f7, alive, hear9, hr, c7, t3, t4, t9, t23, t26, t30, t27, t31, t43, hw0, hw, h, h2, finish, begin, exec, runRegion, runOps, runOpsD, stepF, wantedA, aop, evA, ofVal, ofScalar, St.after, putA, upd, AM.of, AM.bind, AM.val, AM.run, aBin, aIntOp, upOk, resVals, resVal, resTup, final, frzV, frzL, frzBs, newIds, AV.refs, AV.ren, aUn, evL, evP, evO, aBox, aFieldAddr, aLoad, aStore, aBuiltin, aLen, callOp, borrowL, borrowV, borrowC, reach, AV.refsL, AV.renL, AV.cells, AV.one, setAt, mkVal, TI.isAgg, lenOf, aBuild, aFill, aAlloc, aEq, fieldsEq, scEq, aConvert, backId, edgesOk, feetOk, befs, befOne, feet, footOf, looks, Op.operands, Call.operands, Foot.apart, disj, Region.binds, List.range, List.range.loop, isArr, Nat.testBit, ba_eq]
    · have hr : hearR s s t = (s, ⟨#[]⟩, 2) := by
        unfold hearR
        rw [if_pos (by omega)]
      simp [r7, Try.f7, alive, hear9, hr, c7, t3, t4, t9, t23, t26, t30, t27, t31, t43, hw0, hw, h, h2, finish, begin, exec, runRegion, runOps, runOpsD, stepF, wantedA, aop, evA, ofVal, ofScalar, St.after, putA, upd, AM.of, AM.bind, AM.val, AM.run, aBin, aIntOp, upOk, resVals, resVal, resTup, final, frzV, frzL, frzBs, newIds, AV.refs, AV.ren, aUn, evL, evP, evO, aBox, aFieldAddr, aLoad, aStore, aBuiltin, aLen, callOp, borrowL, borrowV, borrowC, reach, AV.refsL, AV.renL, AV.cells, AV.one, setAt, mkVal, TI.isAgg, lenOf, aBuild, aFill, aAlloc, aEq, fieldsEq, scEq, aConvert, backId, edgesOk, feetOk, befs, befOne, feet, footOf, looks, Op.operands, Call.operands, Foot.apart, disj, Region.binds, List.range, List.range.loop, isArr, Nat.testBit, ba_eq]
  · have hr : ∃ e : Int, e ≠ 0 ∧ hearR a s t = (a, ⟨#[]⟩, e) := by
      unfold hearR
      split
      · exact ⟨2, by omega, rfl⟩
      · split
        · exact ⟨10, by omega, rfl⟩
        · rw [if_pos (by omega)]
          exact ⟨7, by omega, rfl⟩
    obtain ⟨e, he, hr⟩ := hr
    simp [r7, Try.f7, alive, hear9, hr, he, c7, t3, t4, t9, t23, t26, t30, t27, t31, t43, hw0, hw, h, h1, finish, begin, exec, runRegion, runOps, runOpsD, stepF, wantedA, aop, evA, ofVal, ofScalar, St.after, putA, upd, AM.of, AM.bind, AM.val, AM.run, aBin, aIntOp, upOk, resVals, resVal, resTup, final, frzV, frzL, frzBs, newIds, AV.refs, AV.ren, aUn, evL, evP, evO, aBox, aFieldAddr, aLoad, aStore, aBuiltin, aLen, callOp, borrowL, borrowV, borrowC, reach, AV.refsL, AV.renL, AV.cells, AV.one, setAt, mkVal, TI.isAgg, lenOf, aBuild, aFill, aAlloc, aEq, fieldsEq, scEq, aConvert, backId, edgesOk, feetOk, befs, befOne, feet, footOf, looks, Op.operands, Call.operands, Foot.apart, disj, Region.binds, List.range, List.range.loop, isArr, Nat.testBit, ba_eq]

theorem law7_args (vs : List AV) (h : ArgVs Try.prog 4 Try.f7.params.toList vs) : ∃ k, acall (tiOf Try.prog) prg k true 7 vs [] = some (.bool true, []) := by
  have u3 : Try.prog.underlying 3 = some (.int .i64) := by kernel_rfl
  have u43 : Try.prog.underlying 43 = some (.int .u16) := by kernel_rfl
  have u9 : Try.prog.underlying 9 = some .string := by kernel_rfl
  have u23 : Try.prog.underlying 23 = some (.struct (Try.prog.fieldsOf 23)) := by kernel_rfl
  have f23 : (Try.prog.fieldsOf 23).toList.map (fun f => (f.offset, f.type)) = [(0, 3), (1, 9)] := by kernel_rfl
  have k23 : Try.prog.cellsOf 23 = 2 := by kernel_rfl
  have k3 : Try.prog.cellsOf 3 = 1 := by kernel_rfl
  have k9 : Try.prog.cellsOf 9 = 1 := by kernel_rfl
  have hp : Try.f7.params.toList = [43, 23] := rfl
  rw [hp] at h
  obtain ⟨v, r, rfl, h1, w, r2, rfl, h2, rfl⟩ := h
  simp only [ArgV, u43, ArgC, List.cons.injEq, and_true] at h1
  obtain ⟨a, rfl, ha⟩ := h1
  simp only [ArgV, u23] at h2
  obtain ⟨c, rfl, hc⟩ := h2
  simp only [ArgC, u23] at hc
  obtain ⟨hl, hf⟩ := hc
  rw [k23] at hl
  match c, hl with
  | [x, y], _ =>
    have g : ∀ p ∈ [((0 : Nat), (3 : Nat)), (1, 9)], ∃ f ∈ (Try.prog.fieldsOf 23).toList, (f.offset, f.type) = p := by
      rw [← f23]; intro p hp; simpa using hp
    obtain ⟨f0, m0, e0⟩ := g (0, 3) (by simp)
    obtain ⟨f1, m1, e1⟩ := g (1, 9) (by simp)
    have q0 := hf f0 m0
    have q1 := hf f1 m1
    simp only [Prod.mk.injEq] at e0 e1
    rw [e0.1, e0.2, k3] at q0
    rw [e1.1, e1.2, k9] at q1
    simp [u3] at q0
    simp [u9] at q1
    obtain ⟨s, rfl, _⟩ := q0
    obtain ⟨t, rfl, _⟩ := q1
    exact ⟨41, law7 a s t (by simpa [IntKind.min, IntKind.max, IntKind.signed, IntKind.bits] using ha)⟩
end Go.Ws
namespace Go.Proofs.Ytpfhlkhdmikdaaa
open Go.ChangeShapes Go.WideShapes Go.ChangeAt Go.RowKit
theorem lifted7 (os : Os) (started : os.Started) (H : Type) (enc : TypeId × Value → H) :
    ReturnsInHanded {} Try.checked os 7 .any (Rows.partyGapsSpec.pre6 enc Try.prog Try.f7 Rows.partyGapsRow.domain false) (Rows.partyGapsSpec.post enc Try.prog Try.f7 false true false false) := by
  refine returnsInHanded_of_change (C := Try.checked) Go.Ws.own started (by kernel_rfl) Try.func7
    (ChangeSpec.witness6 (enc := enc) (C := Try.checked) false ⟨#[], #[.int .u16 0, .agg #[.int .i64 0, .string ⟨#[]⟩]], []⟩ 8 (by kernel_rfl) (by kernel_rfl) (by kernel_rfl) (by kernel_rfl)) ?_
  intro W base args ds gs before hval hW _ _
  exact Go.Ws.contract Go.Ws.prgOK Go.Ws.laid Go.Ws.rowed Go.Ws.full Try.func7 (by kernel_rfl) Go.Ws.isBool (m := 4) (by kernel_rfl) rfl (fun H ds h => by match ds, h with | [d1, d2], _ => rfl) Go.Ws.law7_args hval hW

theorem gaps_holds : Rows.PartyGapsSaid :=
  OpenClaim.holds_of_wide 7 Try.f7 rfl rfl rfl rfl rfl rfl rfl ⟨rfl, rfl, rfl, rfl, rfl⟩ rfl rfl rfl rfl rfl (by kernel_rfl) Try.func7 (by kernel_rfl)
    (of_decide_eq_true (by kernel_rfl)) (by unfold Func.isWrapper; first | (rw [if_pos (by decide +kernel)]; kernel_rfl) | (rw [if_neg (by decide +kernel)]; exact ⟨rfl, rfl⟩))
    (fun os started H enc _ => lifted7 os started H enc)
end Go.Proofs.Ytpfhlkhdmikdaaa
