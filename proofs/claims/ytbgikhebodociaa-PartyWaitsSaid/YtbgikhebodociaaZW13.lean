/-
  party_Right on the abstract machine. (Printed by my own program.)
  Conditions: none.
-/
import Derived.Test.YtbgikhebodociaaZPre
import Derived.Test.YtbgikhebodociaaZPure
import Derived.Test.YtbgikhebodociaaZW17
set_option linter.unusedVariables false
set_option linter.unusedSimpArgs false
namespace Go.Ws
open Go.Proofs
set_option linter.unusedSimpArgs false
set_option linter.unusedVariables false
set_option maxRecDepth 100000
set_option maxHeartbeats 4000000
attribute [local simp] body spine at_ sub execL exec norm_none norm_some begin0 begin1 begin2 begin3 begin4 begin5 runRegion runOps runOpsD stepF wantedA_none wantedA_some isB evA_tmp evA_const evA_func aop tget_mk_eq tget_mk_ne mk_set ofVal ofScalar
attribute [local simp] St.after putA upd AM.of AM.bind AM.val AM.run upOk aBin_add aBin_sub aBin_mul aBin_quo aBin_rem aBin_and aBin_or aBin_xor aBin_andNot aBin_shl aBin_shr aBin_lss aBin_gtr aBin_leq aBin_geq aBin_eql aBin_neq aBin_eqS aBin_neS aBin_eqB aBin_neB aBin_eqG
attribute [local simp] aBin_neG aBin_eqP aBin_neP aBin_eqN aBin_neN aBin_neM aBin_neMn aEq fieldsEq_cons fieldsEq_nil scEq_int scEq_str scEq_bool andO_some nilEq nilK aUn_neg aUn_not aUn_xor aMin_max aMin_min aIndexAddr_eq ixS_sl ixA aIndex aAlloc aBox aLoad aStore aFieldAddr
attribute [local simp] aField cellsAt mkVal TI.isAgg setAt sl_one sl_refs sl_gens sl_ren sl_reg sl_hasInl sl_can sl_cells sl_borrow sl_frz sl_rows sl_nil sl_isStr zs_rows borrowL_sl aBuiltin evL evP evO aLen_eq lenS_sl lenM lenT aBuild aFill
attribute [local simp] aBuildSlice aParts aConvert_eq convI convS_sl aToStr_eq toStrA_map bytesA aAppend_eq grow aSlice_eq cutS_sl cutT aBound_none aBound_int aMakeSlice callOp borrowL borrowC reach AV.refs AV.refsL AV.ren AV.renL Blk.ren Blk.refs AV.hasInl AV.hasInlL backId flatB
attribute [local simp] edgesOk feetOk befs befOne feet footOf looks Op.operands Call.operands Foot.apart disj Region.binds List.range List.range.loop Nat.testBit List.idxOf_cons List.idxOf_nil e_u8 e_str accV_t accV_f accB_t accB_f accH_t accH_f leI_zero leI_nI tN_lit tN_nI roomI_lit
attribute [local simp] isZ_zero isZ_pos List.take_of_length_le ixA1 aYs_sh one_bool cells_bool can_bool bor_bool one_int cells_int can_int bor_int one_str cells_str can_str bor_str one_nilp cells_nilp can_nilp bor_nilp one_hp cells_hp can_hp bor_hp one_ep cells_ep can_ep bor_ep one_ip
attribute [local simp] cells_ip can_ip bor_ip one_nils cells_nils can_nils bor_nils one_emps cells_emps can_emps bor_emps one_zs cells_zs can_zs bor_zs one_inl cells_inl one_ref cells_ref can_ref bor_ref one_mapn cells_mapn can_mapn bor_mapn one_mp cells_mp can_mp bor_mp one_fn
attribute [local simp] cells_fn can_fn bor_fn one_nilf cells_nilf can_nilf bor_nilf one_agg cells_agg can_agg bor_agg one_tup cells_tup can_tup bor_tup one_any cells_any can_any bor_any can_cons can_nil rows_nils rows_emps rows_zs rows_inl rows_ref rows_str1 lenS_nils lenS_emps lenS_zs
attribute [local simp] lenS_inl lenS_ref ixS_inl ixS_ref cutS_nils cutS_emps cutS_zs cutS_ref convS_str convS_nils convS_emps convS_zs convS_inl convS_ref aYs_nils aYs_emps aYs_zs aYs_inl aYs_ref aYs_str eqN_nils neN_nils eqN_inl neN_inl eqN_ref neN_ref aClear_eq clearS_nils clearS_emps clearS_zs
attribute [local simp] clearS_ref normS_mk liveVs_nil liveVs_mk slotIds atV_tmp atV_tcell atV_cell AV.sub idOf nodupB idsOk gensOk gensLive gensSlots viewV_nil viewV_agg viewV_emps viewV_zs viewL_nil viewL_cons viewL_nil2 sl_view AV.gens Blk.gens Blk.gen AV.gensL mkT_length liveReg AV.reg
attribute [local simp] AV.regL slotBlks slotBlk Blk.reg regB regG isArr finish resVals resVal_tmp resVal_cell resTup final frzV frzL frzBs newIds backN t3 t5 t9 t23 t26 t30 t31 t37 t39 t40 t50 t60
attribute [local simp] e_i64_s
def S13_5 (x1 : Int) (x2 : List (Int × ByteArray)) (v13001_1 : Int) : St := ⟨mkT 59 [(3, (.int .i64 (isub .i64 x1 (nI x2.length)))), (39, (sl 2 (List.map e_i64_s x2))), (40, (.int .i64 (nI x2.length))), (41, (.int .i64 v13001_1))], []⟩
def X13_5 : St := ⟨mkT 59 [], []⟩
noncomputable def L13_0 : Code := at_ Try.f13 [1, 1, 1, 0, 1, 4, 5]
def Q13_5 (x1 : Int) (x2 : List (Int × ByteArray)) (y : (Sum (Unit) (Bool))) (x : AX) (st : St) : Prop := match y with
  | .inl y => x = .exit 0 ∧ norm 0 (prg.N 13) (2 * 0 + 1) st = some (X13_5)
  | .inr y => x = .ret ∧ finish TT Try.f13.results.toList 0 true (some (.ret, st)) = some ((.bool y), [])
theorem ok_party_Right_l0 (x1 : Int) (x2 : List (Int × ByteArray)) (y : (Sum (Unit) (Bool))) : ∀ (k : Nat) (v13001_1 : Int) (st : St), party_Right_l0 k x1 x2 v13001_1 = some y → normS 0 NS13_10 st = some (S13_5 x1 x2 v13001_1) → Rn TT prg 13 0 [.loop L13_0] st (Q13_5 x1 x2 y)
  | 0, v13001_1, st, h, hst => by cases h
  | k + 1, v13001_1, st0, h, hst0 => by
    rw [party_Right_l0] at h
    refine Rn.loop ?_
    by_cases c1 : ltI v13001_1 (nI x2.length) = true
    · rw [if_pos c1] at h
      by_cases c2 : inI v13001_1 x2.length = true
      · rw [if_pos c2] at h
        obtain ⟨v13000_1, g3, h⟩ := Option.bind_eq_some_iff.1 h
        by_cases c4 : eqI v13000_1.1 (iadd .i64 (isub .i64 x1 (nI x2.length)) v13001_1) = true
        · rw [if_pos c4] at h
          by_cases c5 : ltI 500 (ssz v13000_1.2) = true
          · rw [if_pos c5] at h
            have e6 : execL TT (acall TT prg (0)) (prg.C 13) (norm 0 (prg.N 13)) (0) (spine L13_0) st0 = execL TT (acall TT prg (0)) (prg.C 13) (norm 0 (prg.N 13)) (0) (spine L13_0) st0 := rfl
            conv at e6 =>
              rhs
              simp [Try.f13, N13, S13_5, L13_0, X13_5, NS13_1, hst0, c1, c2, g3, c4, c5]
            obtain ⟨st7, hst7, e6⟩ := name_it e6
            refine Rn.fin e6 ?_
            obtain rfl := Option.some.inj h
            exact ⟨rfl, by simp [Try.f13, c1, c2, g3, c4, c5, hst7]⟩
          · rw [if_neg c5] at h
            replace c5 := eq_false_of_ne_true c5
            have e8 : execL TT (acall TT prg (0)) (prg.C 13) (norm 0 (prg.N 13)) (0) (spine L13_0) st0 = execL TT (acall TT prg (0)) (prg.C 13) (norm 0 (prg.N 13)) (0) (spine L13_0) st0 := rfl
            conv at e8 =>
              rhs
              simp [Try.f13, N13, S13_5, L13_0, X13_5, NS13_1, hst0, c1, c2, g3, c4, c5]
            obtain ⟨st9, hst9, e8⟩ := name_it e8
            refine Rn.fin e8 ?_
            exact ok_party_Right_l0 x1 x2 y k (iadd .i64 v13001_1 1) st9 h (by simp [hst9, S13_5, NS13_10])
        · rw [if_neg c4] at h
          replace c4 := eq_false_of_ne_true c4
          have e10 : execL TT (acall TT prg (0)) (prg.C 13) (norm 0 (prg.N 13)) (0) (spine L13_0) st0 = execL TT (acall TT prg (0)) (prg.C 13) (norm 0 (prg.N 13)) (0) (spine L13_0) st0 := rfl
          conv at e10 =>
            rhs
            simp [Try.f13, N13, S13_5, L13_0, X13_5, NS13_1, hst0, c1, c2, g3, c4]
          obtain ⟨st11, hst11, e10⟩ := name_it e10
          refine Rn.fin e10 ?_
          obtain rfl := Option.some.inj h
          exact ⟨rfl, by simp [Try.f13, c1, c2, g3, c4, hst11]⟩
      · rw [if_neg c2] at h
        replace c2 := eq_false_of_ne_true c2
        cases h
    · rw [if_neg c1] at h
      replace c1 := eq_false_of_ne_true c1
      have e12 : execL TT (acall TT prg (0)) (prg.C 13) (norm 0 (prg.N 13)) (0) (spine L13_0) st0 = execL TT (acall TT prg (0)) (prg.C 13) (norm 0 (prg.N 13)) (0) (spine L13_0) st0 := rfl
      conv at e12 =>
        rhs
        simp [Try.f13, N13, S13_5, L13_0, X13_5, NS13_1, hst0, c1]
      obtain ⟨st13, hst13, e12⟩ := name_it e12
      refine Rn.fin e12 ?_
      obtain rfl := Option.some.inj h
      exact ⟨rfl, by simp [hst13, N13, norm_some, X13_5, NS13_1]⟩
theorem ok_party_Right (k : Nat) (x1 : Int) (x2 : List (Int × ByteArray)) (x3 : Int) (r : Bool) (h : party_Right k x1 x2 x3 = some r) : CallR TT prg true 13 [(.agg [(.int .i64 x1), (sl 2 (List.map e_i64_s x2)), (.int .i64 x3)])] [] (.bool r) [] := by
    unfold party_Right at h
    refine CallR.of rfl rfl rfl rfl ?_
    obtain ⟨st0, hst0⟩ : ∃ s, s = begin [(.agg [(.int .i64 x1), (sl 2 (List.map e_i64_s x2)), (.int .i64 x3)])] Try.f13.ntmps [] := ⟨_, rfl⟩
    rw [← hst0]
    by_cases c1 : ltI x3 1 = true
    · rw [if_pos c1] at h
      have e2 : execL TT (acall TT prg (0)) (prg.C 13) (norm 0 (prg.N 13)) (0) (List.take 4 (body Try.f13)) st0 = execL TT (acall TT prg (0)) (prg.C 13) (norm 0 (prg.N 13)) (0) (List.take 4 (body Try.f13)) st0 := rfl
      conv at e2 =>
        rhs
        simp [Try.f13, N13, X13_5, NS13_1, hst0, c1]
      obtain ⟨st3, hst3, e2⟩ := name_it e2
      refine Rn.stop 4 e2 (by simp) ?_
      obtain rfl := Option.some.inj h
      simp [Try.f13, c1, hst3]
    · rw [if_neg c1] at h
      replace c1 := eq_false_of_ne_true c1
      by_cases c4 : ltI 100 x3 = true
      · rw [if_pos c4] at h
        have e5 : execL TT (acall TT prg (0)) (prg.C 13) (norm 0 (prg.N 13)) (0) (List.take 4 (body Try.f13)) st0 = execL TT (acall TT prg (0)) (prg.C 13) (norm 0 (prg.N 13)) (0) (List.take 4 (body Try.f13)) st0 := rfl
        conv at e5 =>
          rhs
          simp [Try.f13, N13, X13_5, NS13_1, hst0, c1, c4]
        obtain ⟨st6, hst6, e5⟩ := name_it e5
        refine Rn.stop 4 e5 (by simp) ?_
        obtain rfl := Option.some.inj h
        simp [Try.f13, c1, c4, hst6]
      · rw [if_neg c4] at h
        replace c4 := eq_false_of_ne_true c4
        obtain ⟨k8, e9⟩ := ok_party_numbered x1
        by_cases c10 : (party_numbered x1) = true
        · rw [if_pos c10] at h
          by_cases c11 : ltI x3 (nI x2.length) = true
          · rw [if_pos c11] at h
            replace e9 := acall_mono TT prg (show k8 ≤ (60 + k8) by omega) e9
            try simp only [List.map_append, List.map_cons, List.map_nil, List.length_nil, sl_nil, accV_t, accV_f, accH_t, accH_f, e_u8, e_str, e_i64_s] at e9
            have e12 : execL TT (acall TT prg (60 + k8)) (prg.C 13) (norm 0 (prg.N 13)) (60 + k8) (List.take 4 (body Try.f13)) st0 = execL TT (acall TT prg (60 + k8)) (prg.C 13) (norm 0 (prg.N 13)) (60 + k8) (List.take 4 (body Try.f13)) st0 := rfl
            conv at e12 =>
              rhs
              simp [Try.f13, N13, C13_17, X13_5, NS13_1, hst0, c1, c4, c10, c11, e9]
            obtain ⟨st13, hst13, e12⟩ := name_it e12
            refine Rn.stop 4 e12 (by simp) ?_
            obtain rfl := Option.some.inj h
            simp [Try.f13, c1, c4, c10, c11, hst13]
          · rw [if_neg c11] at h
            replace c11 := eq_false_of_ne_true c11
            by_cases c14 : ltI (isub .i64 x1 (nI x2.length)) 0 = true
            · rw [if_pos c14] at h
              replace e9 := acall_mono TT prg (show k8 ≤ (60 + k8) by omega) e9
              try simp only [List.map_append, List.map_cons, List.map_nil, List.length_nil, sl_nil, accV_t, accV_f, accH_t, accH_f, e_u8, e_str, e_i64_s] at e9
              have e15 : execL TT (acall TT prg (60 + k8)) (prg.C 13) (norm 0 (prg.N 13)) (60 + k8) (List.take 4 (body Try.f13)) st0 = execL TT (acall TT prg (60 + k8)) (prg.C 13) (norm 0 (prg.N 13)) (60 + k8) (List.take 4 (body Try.f13)) st0 := rfl
              conv at e15 =>
                rhs
                simp [Try.f13, N13, C13_17, X13_5, NS13_1, hst0, c1, c4, c10, c11, c14, e9]
              obtain ⟨st16, hst16, e15⟩ := name_it e15
              refine Rn.stop 4 e15 (by simp) ?_
              obtain rfl := Option.some.inj h
              simp [Try.f13, c1, c4, c10, c11, c14, hst16]
            · rw [if_neg c14] at h
              replace c14 := eq_false_of_ne_true c14
              replace e9 := acall_mono TT prg (show k8 ≤ (60 + k8) by omega) e9
              try simp only [List.map_append, List.map_cons, List.map_nil, List.length_nil, sl_nil, accV_t, accV_f, accH_t, accH_f, e_u8, e_str, e_i64_s] at e9
              have e17 : execL TT (acall TT prg (60 + k8)) (prg.C 13) (norm 0 (prg.N 13)) (60 + k8) (List.take 5 (body Try.f13)) st0 = execL TT (acall TT prg (60 + k8)) (prg.C 13) (norm 0 (prg.N 13)) (60 + k8) (List.take 5 (body Try.f13)) st0 := rfl
              conv at e17 =>
                rhs
                simp [Try.f13, N13, C13_17, X13_5, NS13_1, hst0, c1, c4, c10, c11, c14, e9]
              obtain ⟨st18, hst18, e17⟩ := name_it e17
              refine Rn.seg 5 e17 ?_
              rw [show (List.drop 5 (body Try.f13)) = .block 0 (.loop L13_0) :: (List.drop 1 (List.drop 5 (body Try.f13))) by kernel_rfl]
              refine Rn.block ?_
              obtain ⟨x4, e19, h⟩ := Option.bind_eq_some_iff.1 h
              refine Rn.mono (ok_party_Right_l0 x1 x2 x4 k 0 st18 e19 (by simp [hst18, S13_5, NS13_10])) ?_
              intro x_22 st21 q20
              rcases x4 with x5 | x5
              · simp only [Sum.elim_inl, Sum.elim_inr] at h
                obtain ⟨rfl, q20⟩ := q20
                obtain ⟨st23, hst23, q20⟩ := name_it1 q20
                refine BlkQ.exit q20 ?_
                have e24 : execL TT (acall TT prg (0)) (prg.C 13) (norm 0 (prg.N 13)) (0) (List.drop 1 (List.drop 5 (body Try.f13))) st23 = execL TT (acall TT prg (0)) (prg.C 13) (norm 0 (prg.N 13)) (0) (List.drop 1 (List.drop 5 (body Try.f13))) st23 := rfl
                conv at e24 =>
                  rhs
                  simp [Try.f13, N13, C13_17, X13_5, NS13_1, c1, c4, c10, c11, c14, hst23]
                obtain ⟨st25, hst25, e24⟩ := name_it e24
                refine Rn.fin e24 ?_
                obtain rfl := Option.some.inj h
                simp [Try.f13, c1, c4, c10, c11, c14, hst25]
              · simp only [Sum.elim_inl, Sum.elim_inr] at h
                obtain ⟨rfl, q20⟩ := q20
                refine BlkQ.ret ?_
                obtain rfl := Option.some.inj h
                exact q20
        · rw [if_neg c10] at h
          replace c10 := eq_false_of_ne_true c10
          replace e9 := acall_mono TT prg (show k8 ≤ (60 + k8) by omega) e9
          try simp only [List.map_append, List.map_cons, List.map_nil, List.length_nil, sl_nil, accV_t, accV_f, accH_t, accH_f, e_u8, e_str, e_i64_s] at e9
          have e26 : execL TT (acall TT prg (60 + k8)) (prg.C 13) (norm 0 (prg.N 13)) (60 + k8) (List.take 4 (body Try.f13)) st0 = execL TT (acall TT prg (60 + k8)) (prg.C 13) (norm 0 (prg.N 13)) (60 + k8) (List.take 4 (body Try.f13)) st0 := rfl
          conv at e26 =>
            rhs
            simp [Try.f13, N13, C13_17, X13_5, NS13_1, hst0, c1, c4, c10, e9]
          obtain ⟨st27, hst27, e26⟩ := name_it e26
          refine Rn.stop 4 e26 (by simp) ?_
          obtain rfl := Option.some.inj h
          simp [Try.f13, c1, c4, c10, hst27]
end Go.Ws
