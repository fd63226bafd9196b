/-
  slices_DeleteFunc on the abstract machine. (Printed by my own program.)
  Conditions: none.
-/
import Derived.Test.YtbgikhebodociaaZPre
import Derived.Test.YtbgikhebodociaaZPure
import Derived.Test.YtbgikhebodociaaZW20
import Derived.Test.YtbgikhebodociaaZW21o
set_option linter.unusedVariables false
set_option linter.unusedSimpArgs false
namespace Go.Ws
open Go.Proofs
set_option linter.unusedSimpArgs false
set_option linter.unusedVariables false
set_option maxRecDepth 100000
set_option maxHeartbeats 4000000
attribute [local simp] body spine at_ sub execL exec norm_none norm_some begin0 begin1 begin2 begin3 begin4 begin5 runRegion runOps runOpsD stepF wantedA_none wantedA_some isB evA_tmp evA_const evA_func aop tget_mk_eq tget_mk_ne mk_set ofVal ofScalar
attribute [local simp] St.after putA upd AM.of AM.bind AM.val AM.run upOk aBin_add aBin_sub aBin_mul aBin_quo aBin_rem aBin_and aBin_or aBin_xor aBin_andNot aBin_shl aBin_shr aBin_lss aBin_gtr aBin_leq aBin_geq aBin_eql aBin_neq aBin_eqS aBin_neS aBin_eqB aBin_neB aBin_eqG
attribute [local simp] aBin_neG aBin_eqP aBin_neP aBin_eqN aBin_neN aBin_neM aBin_neMn aEq fieldsEq_cons fieldsEq_nil scEq_int scEq_str scEq_bool andO_some nilEq nilK aUn_neg aUn_not aUn_xor aMin_max aMin_min aIndexAddr_eq ixS_sl ixA aIndex aAlloc aBox aLoad aStore aFieldAddr
attribute [local simp] aField cellsAt mkVal TI.isAgg setAt sl_one sl_refs sl_gens sl_ren sl_reg sl_hasInl sl_can sl_cells sl_borrow sl_frz sl_rows sl_nil sl_isStr zs_rows borrowL_sl aBuiltin evL evP evO aLen_eq lenS_sl lenM lenT aBuild aFill
attribute [local simp] aBuildSlice aParts aConvert_eq convI convS_sl aToStr_eq toStrA_map bytesA aAppend_eq grow aSlice_eq cutS_sl cutT aBound_none aBound_int aMakeSlice callOp borrowL borrowC reach AV.refs AV.refsL AV.ren AV.renL Blk.ren Blk.refs AV.hasInl AV.hasInlL backId flatB
attribute [local simp] edgesOk feetOk befs befOne feet footOf looks Op.operands Call.operands Foot.apart disj Region.binds List.range List.range.loop Nat.testBit List.idxOf_cons List.idxOf_nil e_u8 e_str accV_t accV_f accB_t accB_f accH_t accH_f leI_zero leI_nI tN_lit tN_nI roomI_lit
attribute [local simp] isZ_zero isZ_pos List.take_of_length_le ixA1 aYs_sh one_bool cells_bool can_bool bor_bool one_int cells_int can_int bor_int one_str cells_str can_str bor_str one_nilp cells_nilp can_nilp bor_nilp one_hp cells_hp can_hp bor_hp one_ep cells_ep can_ep bor_ep one_ip
attribute [local simp] cells_ip can_ip bor_ip one_nils cells_nils can_nils bor_nils one_emps cells_emps can_emps bor_emps one_zs cells_zs can_zs bor_zs one_inl cells_inl one_ref cells_ref can_ref bor_ref one_mapn cells_mapn can_mapn bor_mapn one_mp cells_mp can_mp bor_mp one_fn
attribute [local simp] cells_fn can_fn bor_fn one_nilf cells_nilf can_nilf bor_nilf one_agg cells_agg can_agg bor_agg one_tup cells_tup can_tup bor_tup one_any cells_any can_any bor_any can_cons can_nil rows_nils rows_emps rows_zs rows_inl rows_ref rows_str1 lenS_nils lenS_emps lenS_zs
attribute [local simp] lenS_inl lenS_ref ixS_inl ixS_ref cutS_nils cutS_emps cutS_zs cutS_ref convS_str convS_nils convS_emps convS_zs convS_inl convS_ref aYs_nils aYs_emps aYs_zs aYs_inl aYs_ref aYs_str eqN_nils neN_nils eqN_inl neN_inl eqN_ref neN_ref aClear_eq clearS_nils clearS_emps clearS_zs
attribute [local simp] clearS_ref normS_mk liveVs_nil liveVs_mk slotIds atV_tmp atV_tcell atV_cell AV.sub idOf nodupB idsOk gensOk gensLive gensSlots viewV_nil viewV_agg viewV_emps viewV_zs viewL_nil viewL_cons viewL_nil2 sl_view AV.gens Blk.gens Blk.gen AV.gensL mkT_length liveReg AV.reg
attribute [local simp] AV.regL slotBlks slotBlk Blk.reg regB regG isArr finish resVals resVal_tmp resVal_cell resTup final frzV frzL frzBs newIds backN t3 t5 t9 t23 t26 t30 t31 t37 t39 t40 t50 t60
attribute [local simp] e_i64_s
def S19_5 (x2 : Int) (v19001_1 : Int) (v19001_2 : Int) (v19001_3 : List (Int × ByteArray)) : St := ⟨mkT 42 [(0, (.ref 2 0 (0) (0) (v19001_3.length) true)), (1, (.fn 20 [(.hp 1 0)])), (5, (.int .i64 v19001_2)), (6, (.int .i64 v19001_1))], [(.arr 2 (List.map e_i64_s v19001_3) (0) (0) false), (.row [(.int .i64 x2)])]⟩
def X19_5 (x2 : Int) (v19002_1 : Int) (v19002_2 : List (Int × ByteArray)) : St := ⟨mkT 42 [(0, (.ref 2 0 (0) (0) (v19002_2.length) true)), (5, (.int .i64 v19002_1))], [(.arr 2 (List.map e_i64_s v19002_2) (0) (0) false), (.row [(.int .i64 x2)])]⟩
noncomputable def L19_0 : Code := at_ Try.f19 [1, 1, 1, 0, 1, 4, 5]
def Q19_5 (x2 : Int) (y : (Int × (List (Int × ByteArray)))) (x : AX) (st : St) : Prop := x = .exit 0 ∧ norm 2 (prg.N 19) (2 * 0 + 1) st = some (X19_5 x2 y.1 y.2)
theorem ok_slices_DeleteFunc_l0 (x2 : Int) (y : (Int × (List (Int × ByteArray)))) : ∀ (k : Nat) (v19001_1 : Int) (v19001_2 : Int) (v19001_3 : List (Int × ByteArray)) (st : St), slices_DeleteFunc_l0 k x2 v19001_1 v19001_2 v19001_3 = some y → normS 2 NS19_10 st = some (S19_5 x2 v19001_1 v19001_2 v19001_3) → Rn TT prg 19 2 [.loop L19_0] st (Q19_5 x2 y)
  | 0, v19001_1, v19001_2, v19001_3, st, h, hst => by cases h
  | k + 1, v19001_1, v19001_2, v19001_3, st0, h, hst0 => by
    rw [slices_DeleteFunc_l0] at h
    refine Rn.loop ?_
    by_cases c1 : ltI v19001_1 (nI v19001_3.length) = true
    · rw [if_pos c1] at h
      by_cases c2 : inI v19001_1 v19001_3.length = true
      · rw [if_pos c2] at h
        obtain ⟨v19000_1, g3, h⟩ := Option.bind_eq_some_iff.1 h
        obtain ⟨k5, e6⟩ := ok_party_Acked_1 x2 v19000_1.1 v19000_1.2
        by_cases c7 : (party_Acked_1 x2 v19000_1.1 v19000_1.2) = true
        · rw [if_pos c7] at h
          replace e6 := acall_mono TT prg (show k5 ≤ (60 + k5) by omega) e6
          try simp only [List.map_append, List.map_cons, List.map_nil, List.length_nil, sl_nil, accV_t, accV_f, accH_t, accH_f, e_u8, e_str, e_i64_s] at e6
          have e8 : execL TT (acall TT prg (60 + k5)) (prg.C 19) (norm 2 (prg.N 19)) (60 + k5) (spine L19_0) st0 = execL TT (acall TT prg (60 + k5)) (prg.C 19) (norm 2 (prg.N 19)) (60 + k5) (spine L19_0) st0 := rfl
          conv at e8 =>
            rhs
            simp [Try.f19, N19, C19_20, S19_5, L19_0, X19_5, NS19_1, hst0, c1, c2, g3, c7, e6]
          obtain ⟨st9, hst9, e8⟩ := name_it e8
          refine Rn.fin e8 ?_
          exact ok_slices_DeleteFunc_l0 x2 y k (iadd .i64 v19001_1 1) v19001_2 v19001_3 st9 h (by simp [hst9, S19_5, NS19_10])
        · rw [if_neg c7] at h
          replace c7 := eq_false_of_ne_true c7
          by_cases c10 : inI v19001_2 v19001_3.length = true
          · rw [if_pos c10] at h
            obtain ⟨v19000_2, g11, h⟩ := Option.bind_eq_some_iff.1 h
            replace e6 := acall_mono TT prg (show k5 ≤ (60 + k5) by omega) e6
            try simp only [List.map_append, List.map_cons, List.map_nil, List.length_nil, sl_nil, accV_t, accV_f, accH_t, accH_f, e_u8, e_str, e_i64_s] at e6
            have e12 : execL TT (acall TT prg (60 + k5)) (prg.C 19) (norm 2 (prg.N 19)) (60 + k5) (spine L19_0) st0 = execL TT (acall TT prg (60 + k5)) (prg.C 19) (norm 2 (prg.N 19)) (60 + k5) (spine L19_0) st0 := rfl
            conv at e12 =>
              rhs
              simp [Try.f19, N19, C19_20, S19_5, L19_0, X19_5, NS19_1, hst0, c1, c2, g3, c7, c10, g11, e6]
            obtain ⟨st13, hst13, e12⟩ := name_it e12
            refine Rn.fin e12 ?_
            exact ok_slices_DeleteFunc_l0 x2 y k (iadd .i64 v19001_1 1) (iadd .i64 v19001_2 1) (List.set v19001_3 (tN v19001_2) v19000_1) st13 h (by simp [hst13, S19_5, NS19_10])
          · rw [if_neg c10] at h
            replace c10 := eq_false_of_ne_true c10
            cases h
      · rw [if_neg c2] at h
        replace c2 := eq_false_of_ne_true c2
        cases h
    · rw [if_neg c1] at h
      replace c1 := eq_false_of_ne_true c1
      have e14 : execL TT (acall TT prg (0)) (prg.C 19) (norm 2 (prg.N 19)) (0) (spine L19_0) st0 = execL TT (acall TT prg (0)) (prg.C 19) (norm 2 (prg.N 19)) (0) (spine L19_0) st0 := rfl
      conv at e14 =>
        rhs
        simp [Try.f19, N19, C19_20, S19_5, L19_0, X19_5, NS19_1, hst0, c1]
      obtain ⟨st15, hst15, e14⟩ := name_it e14
      refine Rn.fin e14 ?_
      obtain rfl := Option.some.inj h
      exact ⟨rfl, by simp [hst15, N19, norm_some, X19_5, NS19_1]⟩
theorem ok_slices_DeleteFunco (k : Nat) (x1 : List (Int × ByteArray)) (x2 : Int) (r : Nat × (List (Int × ByteArray))) (h : slices_DeleteFunc k x1 x2 = some r) : CallR TT prg false 19 [(.ref 2 0 (0) (0) (x1.length) true), (.fn 20 [(.hp 1 0)])] [(.arr 2 (List.map e_i64_s x1) (0) (0) false), (.row [(.int .i64 x2)])] (.ref 2 0 (0) (0) (r.1) true) [(.arr 2 (List.map e_i64_s r.2) (0) (0) false), (.row [(.int .i64 x2)])] := by
    unfold slices_DeleteFunc at h
    refine CallR.of rfl rfl rfl rfl ?_
    obtain ⟨st0, hst0⟩ : ∃ s, s = begin [(.ref 2 0 (0) (0) (x1.length) true), (.fn 20 [(.hp 1 0)])] Try.f19.ntmps [(.arr 2 (List.map e_i64_s x1) (0) (0) false), (.row [(.int .i64 x2)])] := ⟨_, rfl⟩
    rw [← hst0]
    obtain ⟨x3, e1, h⟩ := Option.bind_eq_some_iff.1 h
    obtain ⟨k2, e3⟩ := ok_slices_IndexFunco k x1 x2 _ e1
    by_cases c4 : eqI x3 (-1) = true
    · rw [if_pos c4] at h
      replace e3 := acall_mono TT prg (show k2 ≤ (60 + k2) by omega) e3
      try simp only [List.map_append, List.map_cons, List.map_nil, List.length_nil, sl_nil, accV_t, accV_f, accH_t, accH_f, e_u8, e_str, e_i64_s] at e3
      have e5 : execL TT (acall TT prg (60 + k2)) (prg.C 19) (norm 2 (prg.N 19)) (60 + k2) (List.take 4 (body Try.f19)) st0 = execL TT (acall TT prg (60 + k2)) (prg.C 19) (norm 2 (prg.N 19)) (60 + k2) (List.take 4 (body Try.f19)) st0 := rfl
      conv at e5 =>
        rhs
        simp [Try.f19, N19, C19_20, C19_21, X19_5, NS19_1, hst0, c4, e3]
      obtain ⟨st6, hst6, e5⟩ := name_it e5
      refine Rn.stop 4 e5 (by simp) ?_
      obtain rfl := Option.some.inj h
      simp [Try.f19, c4, hst6]
    · rw [if_neg c4] at h
      replace c4 := eq_false_of_ne_true c4
      replace e3 := acall_mono TT prg (show k2 ≤ (60 + k2) by omega) e3
      try simp only [List.map_append, List.map_cons, List.map_nil, List.length_nil, sl_nil, accV_t, accV_f, accH_t, accH_f, e_u8, e_str, e_i64_s] at e3
      have e7 : execL TT (acall TT prg (60 + k2)) (prg.C 19) (norm 2 (prg.N 19)) (60 + k2) (List.take 5 (body Try.f19)) st0 = execL TT (acall TT prg (60 + k2)) (prg.C 19) (norm 2 (prg.N 19)) (60 + k2) (List.take 5 (body Try.f19)) st0 := rfl
      conv at e7 =>
        rhs
        simp [Try.f19, N19, C19_20, C19_21, X19_5, NS19_1, hst0, c4, e3]
      obtain ⟨st8, hst8, e7⟩ := name_it e7
      refine Rn.seg 5 e7 ?_
      rw [show (List.drop 5 (body Try.f19)) = .block 0 (.loop L19_0) :: (List.drop 1 (List.drop 5 (body Try.f19))) by kernel_rfl]
      refine Rn.block ?_
      obtain ⟨x4, e9, h⟩ := Option.bind_eq_some_iff.1 h
      refine Rn.mono (ok_slices_DeleteFunc_l0 x2 x4 k (iadd .i64 x3 1) x3 x1 st8 e9 (by simp [hst8, S19_5, NS19_10])) ?_
      intro x_12 st11 q10
      obtain ⟨rfl, q10⟩ := q10
      obtain ⟨st13, hst13, q10⟩ := name_it1 q10
      refine BlkQ.exit q10 ?_
      by_cases c14 : leI x4.1 x4.2.length = true
      · rw [if_pos c14] at h
        have c15 := leI_le c14
        have c16 := leI_add c14
        by_cases c17 : isZ (x4.2.length - (tN x4.1)) = true
        · rw [if_pos c17] at h
          have e18 : execL TT (acall TT prg (0)) (prg.C 19) (norm 2 (prg.N 19)) (0) (List.drop 1 (List.drop 5 (body Try.f19))) st13 = execL TT (acall TT prg (0)) (prg.C 19) (norm 2 (prg.N 19)) (0) (List.drop 1 (List.drop 5 (body Try.f19))) st13 := rfl
          conv at e18 =>
            rhs
            simp [Try.f19, N19, C19_20, C19_21, X19_5, NS19_1, c4, hst13, c14, c15, c16, c17]
          obtain ⟨st19, hst19, e18⟩ := name_it e18
          refine Rn.fin e18 ?_
          obtain rfl := Option.some.inj h
          simp [Try.f19, c4, c14, c15, c16, c17, hst19]
        · rw [if_neg c17] at h
          replace c17 := eq_false_of_ne_true c17
          have e20 : execL TT (acall TT prg (0)) (prg.C 19) (norm 2 (prg.N 19)) (0) (List.drop 1 (List.drop 5 (body Try.f19))) st13 = execL TT (acall TT prg (0)) (prg.C 19) (norm 2 (prg.N 19)) (0) (List.drop 1 (List.drop 5 (body Try.f19))) st13 := rfl
          conv at e20 =>
            rhs
            simp [Try.f19, N19, C19_20, C19_21, X19_5, NS19_1, c4, hst13, c14, c15, c16, c17]
          obtain ⟨st21, hst21, e20⟩ := name_it e20
          refine Rn.fin e20 ?_
          obtain rfl := Option.some.inj h
          simp [Try.f19, c4, c14, c15, c16, c17, hst21]
      · rw [if_neg c14] at h
        replace c14 := eq_false_of_ne_true c14
        cases h
end Go.Ws
