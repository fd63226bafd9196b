/-
  slices_IndexFunc_e on the abstract machine. (Printed by my own program.)
  Conditions: none.
-/
import Derived.Test.YtbgikhebodociaaZPre
import Derived.Test.YtbgikhebodociaaZPure
set_option linter.unusedVariables false
set_option linter.unusedSimpArgs false
namespace Go.Ws
open Go.Proofs
set_option linter.unusedSimpArgs false
set_option linter.unusedVariables false
set_option maxRecDepth 100000
set_option maxHeartbeats 4000000
attribute [local simp] body spine at_ sub execL exec norm_none norm_some begin0 begin1 begin2 begin3 begin4 begin5 runRegion runOps runOpsD stepF wantedA_none wantedA_some isB evA_tmp evA_const evA_func aop tget_mk_eq tget_mk_ne mk_set ofVal ofScalar
attribute [local simp] St.after putA upd AM.of AM.bind AM.val AM.run upOk aBin_add aBin_sub aBin_mul aBin_quo aBin_rem aBin_and aBin_or aBin_xor aBin_andNot aBin_shl aBin_shr aBin_lss aBin_gtr aBin_leq aBin_geq aBin_eql aBin_neq aBin_eqS aBin_neS aBin_eqB aBin_neB aBin_eqG
attribute [local simp] aBin_neG aBin_eqP aBin_neP aBin_eqN aBin_neN aBin_neM aBin_neMn aEq fieldsEq_cons fieldsEq_nil scEq_int scEq_str scEq_bool andO_some nilEq nilK aUn_neg aUn_not aUn_xor aMin_max aMin_min aIndexAddr_eq ixS_sl ixA aIndex aAlloc aBox aLoad aStore aFieldAddr
attribute [local simp] aField cellsAt mkVal TI.isAgg setAt sl_one sl_refs sl_gens sl_ren sl_reg sl_hasInl sl_can sl_cells sl_borrow sl_frz sl_rows sl_nil sl_isStr zs_rows borrowL_sl aBuiltin evL evP evO aLen_eq lenS_sl lenM lenT aBuild aFill
attribute [local simp] aBuildSlice aParts aConvert_eq convI convS_sl aToStr_eq toStrA_map bytesA aAppend_eq grow aSlice_eq cutS_sl cutT aBound_none aBound_int aMakeSlice callOp borrowL borrowC reach AV.refs AV.refsL AV.ren AV.renL Blk.ren Blk.refs AV.hasInl AV.hasInlL backId flatB
attribute [local simp] edgesOk feetOk befs befOne feet footOf looks Op.operands Call.operands Foot.apart disj Region.binds List.range List.range.loop Nat.testBit List.idxOf_cons List.idxOf_nil e_u8 e_str accV_t accV_f accB_t accB_f accH_t accH_f leI_zero leI_nI tN_lit tN_nI roomI_lit
attribute [local simp] isZ_zero isZ_pos List.take_of_length_le ixA1 aYs_sh one_bool cells_bool can_bool bor_bool one_int cells_int can_int bor_int one_str cells_str can_str bor_str one_nilp cells_nilp can_nilp bor_nilp one_hp cells_hp can_hp bor_hp one_ep cells_ep can_ep bor_ep one_ip
attribute [local simp] cells_ip can_ip bor_ip one_nils cells_nils can_nils bor_nils one_emps cells_emps can_emps bor_emps one_zs cells_zs can_zs bor_zs one_inl cells_inl one_ref cells_ref can_ref bor_ref one_mapn cells_mapn can_mapn bor_mapn one_mp cells_mp can_mp bor_mp one_fn
attribute [local simp] cells_fn can_fn bor_fn one_nilf cells_nilf can_nilf bor_nilf one_agg cells_agg can_agg bor_agg one_tup cells_tup can_tup bor_tup one_any cells_any can_any bor_any can_cons can_nil rows_nils rows_emps rows_zs rows_inl rows_ref rows_str1 lenS_nils lenS_emps lenS_zs
attribute [local simp] lenS_inl lenS_ref ixS_inl ixS_ref cutS_nils cutS_emps cutS_zs cutS_ref convS_str convS_nils convS_emps convS_zs convS_inl convS_ref aYs_nils aYs_emps aYs_zs aYs_inl aYs_ref aYs_str eqN_nils neN_nils eqN_inl neN_inl eqN_ref neN_ref aClear_eq clearS_nils clearS_emps clearS_zs
attribute [local simp] clearS_ref normS_mk liveVs_nil liveVs_mk slotIds atV_tmp atV_tcell atV_cell AV.sub idOf nodupB idsOk gensOk gensLive gensSlots viewV_nil viewV_agg viewV_emps viewV_zs viewL_nil viewL_cons viewL_nil2 sl_view AV.gens Blk.gens Blk.gen AV.gensL mkT_length liveReg AV.reg
attribute [local simp] AV.regL slotBlks slotBlk Blk.reg regB regG isArr finish resVals resVal_tmp resVal_cell resTup final frzV frzL frzBs newIds backN t3 t5 t9 t23 t26 t30 t31 t37 t39 t40 t50 t60
attribute [local simp] e_i64_s
theorem ok_slices_IndexFunc_e (k : Nat) (x1 : List (Int × ByteArray)) (x2 : Int) (r : Int) (hx : x1 = []) (h : slices_IndexFunc k x1 x2 = some r) : r = (-1) ∧ CallR TT prg false 21 [.emps, (.fn 20 [(.hp 0 0)])] [(.row [(.int .i64 x2)])] (.int .i64 (-1)) [(.row [(.int .i64 x2)])] := by
    subst hx
    have hr : r = (-1) := by
      match k, h with
      | 0, h => simp [slices_IndexFunc, slices_IndexFunc_l0, party_Acked_1, ltI_00, eqI_self, List.length_nil, accV_f] at h
      | 1, h => simp [slices_IndexFunc, slices_IndexFunc_l0, party_Acked_1, ltI_00, eqI_self, List.length_nil, accV_f] at h <;> exact h.symm
      | k + 2, h => simp [slices_IndexFunc, slices_IndexFunc_l0, party_Acked_1, ltI_00, eqI_self, List.length_nil, accV_f] at h <;> exact h.symm
    subst hr
    refine ⟨rfl, ?_⟩
    refine CallR.of rfl rfl rfl rfl ?_
    have e : execL TT (acall TT prg (60)) (prg.C 21) (norm 1 (prg.N 21)) (60) (body Try.f21) (begin [.emps, (.fn 20 [(.hp 0 0)])] Try.f21.ntmps [(.row [(.int .i64 x2)])]) = execL TT (acall TT prg (60)) (prg.C 21) (norm 1 (prg.N 21)) (60) (body Try.f21) (begin [.emps, (.fn 20 [(.hp 0 0)])] Try.f21.ntmps [(.row [(.int .i64 x2)])]) := rfl
    conv at e =>
      rhs
      simp [Try.f21, N21, iter, ltI_00, eqI_self, C21_20, NS21_4, NS21_1]
    refine Rn.fin e ?_
    simp [Try.f21]
end Go.Ws
