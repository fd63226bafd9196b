/-
  slices_IndexFunc on the abstract machine. (Printed by my own program.)
  Conditions: none.
-/
import Derived.Test.YtbgikhebodociaaZPre
import Derived.Test.YtbgikhebodociaaZPure
import Derived.Test.YtbgikhebodociaaZW20
set_option linter.unusedVariables false
set_option linter.unusedSimpArgs false
namespace Go.Ws
open Go.Proofs
set_option linter.unusedSimpArgs false
set_option linter.unusedVariables false
set_option maxRecDepth 100000
set_option maxHeartbeats 4000000
attribute [local simp] body spine at_ sub execL exec norm_none norm_some begin0 begin1 begin2 begin3 begin4 begin5 runRegion runOps runOpsD stepF wantedA_none wantedA_some isB evA_tmp evA_const evA_func aop tget_mk_eq tget_mk_ne mk_set ofVal ofScalar
attribute [local simp] St.after putA upd AM.of AM.bind AM.val AM.run upOk aBin_add aBin_sub aBin_mul aBin_quo aBin_rem aBin_and aBin_or aBin_xor aBin_andNot aBin_shl aBin_shr aBin_lss aBin_gtr aBin_leq aBin_geq aBin_eql aBin_neq aBin_eqS aBin_neS aBin_eqB aBin_neB aBin_eqG
attribute [local simp] aBin_neG aBin_eqP aBin_neP aBin_eqN aBin_neN aBin_neM aBin_neMn aEq fieldsEq_cons fieldsEq_nil scEq_int scEq_str scEq_bool andO_some nilEq nilK aUn_neg aUn_not aUn_xor aMin_max aMin_min aIndexAddr_eq ixS_sl ixA aIndex aAlloc aBox aLoad aStore aFieldAddr
attribute [local simp] aField cellsAt mkVal TI.isAgg setAt sl_one sl_refs sl_gens sl_ren sl_reg sl_hasInl sl_can sl_cells sl_borrow sl_frz sl_rows sl_nil sl_isStr zs_rows borrowL_sl aBuiltin evL evP evO aLen_eq lenS_sl lenM lenT aBuild aFill
attribute [local simp] aBuildSlice aParts aConvert_eq convI convS_sl aToStr_eq toStrA_map bytesA aAppend_eq grow aSlice_eq cutS_sl cutT aBound_none aBound_int aMakeSlice callOp borrowL borrowC reach AV.refs AV.refsL AV.ren AV.renL Blk.ren Blk.refs AV.hasInl AV.hasInlL backId flatB
attribute [local simp] edgesOk feetOk befs befOne feet footOf looks Op.operands Call.operands Foot.apart disj Region.binds List.range List.range.loop Nat.testBit List.idxOf_cons List.idxOf_nil e_u8 e_str accV_t accV_f accB_t accB_f accH_t accH_f leI_zero leI_nI tN_lit tN_nI roomI_lit
attribute [local simp] isZ_zero isZ_pos List.take_of_length_le ixA1 aYs_sh one_bool cells_bool can_bool bor_bool one_int cells_int can_int bor_int one_str cells_str can_str bor_str one_nilp cells_nilp can_nilp bor_nilp one_hp cells_hp can_hp bor_hp one_ep cells_ep can_ep bor_ep one_ip
attribute [local simp] cells_ip can_ip bor_ip one_nils cells_nils can_nils bor_nils one_emps cells_emps can_emps bor_emps one_zs cells_zs can_zs bor_zs one_inl cells_inl one_ref cells_ref can_ref bor_ref one_mapn cells_mapn can_mapn bor_mapn one_mp cells_mp can_mp bor_mp one_fn
attribute [local simp] cells_fn can_fn bor_fn one_nilf cells_nilf can_nilf bor_nilf one_agg cells_agg can_agg bor_agg one_tup cells_tup can_tup bor_tup one_any cells_any can_any bor_any can_cons can_nil rows_nils rows_emps rows_zs rows_inl rows_ref rows_str1 lenS_nils lenS_emps lenS_zs
attribute [local simp] lenS_inl lenS_ref ixS_inl ixS_ref cutS_nils cutS_emps cutS_zs cutS_ref convS_str convS_nils convS_emps convS_zs convS_inl convS_ref aYs_nils aYs_emps aYs_zs aYs_inl aYs_ref aYs_str eqN_nils neN_nils eqN_inl neN_inl eqN_ref neN_ref aClear_eq clearS_nils clearS_emps clearS_zs
attribute [local simp] clearS_ref normS_mk liveVs_nil liveVs_mk slotIds atV_tmp atV_tcell atV_cell AV.sub idOf nodupB idsOk gensOk gensLive gensSlots viewV_nil viewV_agg viewV_emps viewV_zs viewL_nil viewL_cons viewL_nil2 sl_view AV.gens Blk.gens Blk.gen AV.gensL mkT_length liveReg AV.reg
attribute [local simp] AV.regL slotBlks slotBlk Blk.reg regB regG isArr finish resVals resVal_tmp resVal_cell resTup final frzV frzL frzBs newIds backN t3 t5 t9 t23 t26 t30 t31 t37 t39 t40 t50 t60
attribute [local simp] e_i64_s
def S21_2 (x1 : List (Int × ByteArray)) (x2 : Int) (v21001_1 : Int) : St := ⟨mkT 19 [(0, (.ref 2 0 (0) (0) (x1.length) true)), (1, (.fn 20 [(.hp 1 0)])), (7, (.int .i64 (nI x1.length))), (8, (.int .i64 v21001_1))], [(.arr 2 (List.map e_i64_s x1) (0) (0) false), (.row [(.int .i64 x2)])]⟩
def X21_2 (x1 : List (Int × ByteArray)) (x2 : Int) : St := ⟨mkT 19 [], [(.arr 2 (List.map e_i64_s x1) (0) (0) false), (.row [(.int .i64 x2)])]⟩
noncomputable def L21_0 : Code := at_ Try.f21 [1, 0, 1, 4, 5]
def Q21_2 (x1 : List (Int × ByteArray)) (x2 : Int) (y : (Sum (Unit) (Int))) (x : AX) (st : St) : Prop := match y with
  | .inl y => x = .exit 0 ∧ norm 2 (prg.N 21) (2 * 0 + 1) st = some (X21_2 x1 x2)
  | .inr y => x = .ret ∧ finish TT Try.f21.results.toList 2 false (some (.ret, st)) = some ((.int .i64 y), [(.arr 2 (List.map e_i64_s x1) (0) (0) false), (.row [(.int .i64 x2)])])
theorem ok_slices_IndexFunc_l0 (x1 : List (Int × ByteArray)) (x2 : Int) (y : (Sum (Unit) (Int))) : ∀ (k : Nat) (v21001_1 : Int) (st : St), slices_IndexFunc_l0 k x1 x2 v21001_1 = some y → normS 2 NS21_4 st = some (S21_2 x1 x2 v21001_1) → Rn TT prg 21 2 [.loop L21_0] st (Q21_2 x1 x2 y)
  | 0, v21001_1, st, h, hst => by cases h
  | k + 1, v21001_1, st0, h, hst0 => by
    rw [slices_IndexFunc_l0] at h
    refine Rn.loop ?_
    by_cases c1 : ltI v21001_1 (nI x1.length) = true
    · rw [if_pos c1] at h
      by_cases c2 : inI v21001_1 x1.length = true
      · rw [if_pos c2] at h
        obtain ⟨v21000_1, g3, h⟩ := Option.bind_eq_some_iff.1 h
        obtain ⟨k5, e6⟩ := ok_party_Acked_1 x2 v21000_1.1 v21000_1.2
        by_cases c7 : (party_Acked_1 x2 v21000_1.1 v21000_1.2) = true
        · rw [if_pos c7] at h
          replace e6 := acall_mono TT prg (show k5 ≤ (60 + k5) by omega) e6
          try simp only [List.map_append, List.map_cons, List.map_nil, List.length_nil, sl_nil, accV_t, accV_f, accH_t, accH_f, e_u8, e_str, e_i64_s] at e6
          have e8 : execL TT (acall TT prg (60 + k5)) (prg.C 21) (norm 2 (prg.N 21)) (60 + k5) (spine L21_0) st0 = execL TT (acall TT prg (60 + k5)) (prg.C 21) (norm 2 (prg.N 21)) (60 + k5) (spine L21_0) st0 := rfl
          conv at e8 =>
            rhs
            simp [Try.f21, N21, C21_20, S21_2, L21_0, X21_2, NS21_1, hst0, c1, c2, g3, c7, e6]
          obtain ⟨st9, hst9, e8⟩ := name_it e8
          refine Rn.fin e8 ?_
          obtain rfl := Option.some.inj h
          exact ⟨rfl, by simp [Try.f21, c1, c2, g3, c7, hst9]⟩
        · rw [if_neg c7] at h
          replace c7 := eq_false_of_ne_true c7
          replace e6 := acall_mono TT prg (show k5 ≤ (60 + k5) by omega) e6
          try simp only [List.map_append, List.map_cons, List.map_nil, List.length_nil, sl_nil, accV_t, accV_f, accH_t, accH_f, e_u8, e_str, e_i64_s] at e6
          have e10 : execL TT (acall TT prg (60 + k5)) (prg.C 21) (norm 2 (prg.N 21)) (60 + k5) (spine L21_0) st0 = execL TT (acall TT prg (60 + k5)) (prg.C 21) (norm 2 (prg.N 21)) (60 + k5) (spine L21_0) st0 := rfl
          conv at e10 =>
            rhs
            simp [Try.f21, N21, C21_20, S21_2, L21_0, X21_2, NS21_1, hst0, c1, c2, g3, c7, e6]
          obtain ⟨st11, hst11, e10⟩ := name_it e10
          refine Rn.fin e10 ?_
          exact ok_slices_IndexFunc_l0 x1 x2 y k (iadd .i64 v21001_1 1) st11 h (by simp [hst11, S21_2, NS21_4])
      · rw [if_neg c2] at h
        replace c2 := eq_false_of_ne_true c2
        cases h
    · rw [if_neg c1] at h
      replace c1 := eq_false_of_ne_true c1
      have e12 : execL TT (acall TT prg (0)) (prg.C 21) (norm 2 (prg.N 21)) (0) (spine L21_0) st0 = execL TT (acall TT prg (0)) (prg.C 21) (norm 2 (prg.N 21)) (0) (spine L21_0) st0 := rfl
      conv at e12 =>
        rhs
        simp [Try.f21, N21, C21_20, S21_2, L21_0, X21_2, NS21_1, hst0, c1]
      obtain ⟨st13, hst13, e12⟩ := name_it e12
      refine Rn.fin e12 ?_
      obtain rfl := Option.some.inj h
      exact ⟨rfl, by simp [hst13, N21, norm_some, X21_2, NS21_1]⟩
theorem ok_slices_IndexFunco (k : Nat) (x1 : List (Int × ByteArray)) (x2 : Int) (r : Int) (h : slices_IndexFunc k x1 x2 = some r) : CallR TT prg false 21 [(.ref 2 0 (0) (0) (x1.length) true), (.fn 20 [(.hp 1 0)])] [(.arr 2 (List.map e_i64_s x1) (0) (0) false), (.row [(.int .i64 x2)])] (.int .i64 r) [(.arr 2 (List.map e_i64_s x1) (0) (0) false), (.row [(.int .i64 x2)])] := by
    unfold slices_IndexFunc at h
    refine CallR.of rfl rfl rfl rfl ?_
    obtain ⟨st0, hst0⟩ : ∃ s, s = begin [(.ref 2 0 (0) (0) (x1.length) true), (.fn 20 [(.hp 1 0)])] Try.f21.ntmps [(.arr 2 (List.map e_i64_s x1) (0) (0) false), (.row [(.int .i64 x2)])] := ⟨_, rfl⟩
    rw [← hst0]
    have e1 : execL TT (acall TT prg (0)) (prg.C 21) (norm 2 (prg.N 21)) (0) (List.take 2 (body Try.f21)) st0 = execL TT (acall TT prg (0)) (prg.C 21) (norm 2 (prg.N 21)) (0) (List.take 2 (body Try.f21)) st0 := rfl
    conv at e1 =>
      rhs
      simp [Try.f21, N21, C21_20, X21_2, NS21_1, hst0]
    obtain ⟨st2, hst2, e1⟩ := name_it e1
    refine Rn.seg 2 e1 ?_
    rw [show (List.drop 2 (body Try.f21)) = .block 0 (.loop L21_0) :: (List.drop 1 (List.drop 2 (body Try.f21))) by kernel_rfl]
    refine Rn.block ?_
    obtain ⟨x3, e3, h⟩ := Option.bind_eq_some_iff.1 h
    refine Rn.mono (ok_slices_IndexFunc_l0 x1 x2 x3 k 0 st2 e3 (by simp [hst2, S21_2, NS21_4])) ?_
    intro x_6 st5 q4
    rcases x3 with x4 | x4
    · simp only [Sum.elim_inl, Sum.elim_inr] at h
      obtain ⟨rfl, q4⟩ := q4
      obtain ⟨st7, hst7, q4⟩ := name_it1 q4
      refine BlkQ.exit q4 ?_
      have e8 : execL TT (acall TT prg (0)) (prg.C 21) (norm 2 (prg.N 21)) (0) (List.drop 1 (List.drop 2 (body Try.f21))) st7 = execL TT (acall TT prg (0)) (prg.C 21) (norm 2 (prg.N 21)) (0) (List.drop 1 (List.drop 2 (body Try.f21))) st7 := rfl
      conv at e8 =>
        rhs
        simp [Try.f21, N21, C21_20, X21_2, NS21_1, hst7]
      obtain ⟨st9, hst9, e8⟩ := name_it e8
      refine Rn.fin e8 ?_
      obtain rfl := Option.some.inj h
      simp [Try.f21, hst9]
    · simp only [Sum.elim_inl, Sum.elim_inr] at h
      obtain ⟨rfl, q4⟩ := q4
      refine BlkQ.ret ?_
      obtain rfl := Option.some.inj h
      exact q4
end Go.Ws
