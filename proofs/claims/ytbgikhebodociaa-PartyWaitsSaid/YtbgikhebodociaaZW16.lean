/-
  party_Acked on the abstract machine. (Printed by my own program.)
  Conditions: none.
-/
import Derived.Test.YtbgikhebodociaaZPre
import Derived.Test.YtbgikhebodociaaZPure
import Derived.Test.YtbgikhebodociaaZW13
import Derived.Test.YtbgikhebodociaaZW18o
import Derived.Test.YtbgikhebodociaaZW19o
import Derived.Test.YtbgikhebodociaaZW19oe
set_option linter.unusedVariables false
set_option linter.unusedSimpArgs false
namespace Go.Ws
open Go.Proofs
set_option linter.unusedSimpArgs false
set_option linter.unusedVariables false
set_option maxRecDepth 100000
set_option maxHeartbeats 4000000
attribute [local simp] body spine at_ sub execL exec norm_none norm_some begin0 begin1 begin2 begin3 begin4 begin5 runRegion runOps runOpsD stepF wantedA_none wantedA_some isB evA_tmp evA_const evA_func aop tget_mk_eq tget_mk_ne mk_set ofVal ofScalar
attribute [local simp] St.after putA upd AM.of AM.bind AM.val AM.run upOk aBin_add aBin_sub aBin_mul aBin_quo aBin_rem aBin_and aBin_or aBin_xor aBin_andNot aBin_shl aBin_shr aBin_lss aBin_gtr aBin_leq aBin_geq aBin_eql aBin_neq aBin_eqS aBin_neS aBin_eqB aBin_neB aBin_eqG
attribute [local simp] aBin_neG aBin_eqP aBin_neP aBin_eqN aBin_neN aBin_neM aBin_neMn aEq fieldsEq_cons fieldsEq_nil scEq_int scEq_str scEq_bool andO_some nilEq nilK aUn_neg aUn_not aUn_xor aMin_max aMin_min aIndexAddr_eq ixS_sl ixA aIndex aAlloc aBox aLoad aStore aFieldAddr
attribute [local simp] aField cellsAt mkVal TI.isAgg setAt sl_one sl_refs sl_gens sl_ren sl_reg sl_hasInl sl_can sl_cells sl_borrow sl_frz sl_rows sl_nil sl_isStr zs_rows borrowL_sl aBuiltin evL evP evO aLen_eq lenS_sl lenM lenT aBuild aFill
attribute [local simp] aBuildSlice aParts aConvert_eq convI convS_sl aToStr_eq toStrA_map bytesA aAppend_eq grow aSlice_eq cutS_sl cutT aBound_none aBound_int aMakeSlice callOp borrowL borrowC reach AV.refs AV.refsL AV.ren AV.renL Blk.ren Blk.refs AV.hasInl AV.hasInlL backId flatB
attribute [local simp] edgesOk feetOk befs befOne feet footOf looks Op.operands Call.operands Foot.apart disj Region.binds List.range List.range.loop Nat.testBit List.idxOf_cons List.idxOf_nil e_u8 e_str accV_t accV_f accB_t accB_f accH_t accH_f leI_zero leI_nI tN_lit tN_nI roomI_lit
attribute [local simp] isZ_zero isZ_pos List.take_of_length_le ixA1 aYs_sh one_bool cells_bool can_bool bor_bool one_int cells_int can_int bor_int one_str cells_str can_str bor_str one_nilp cells_nilp can_nilp bor_nilp one_hp cells_hp can_hp bor_hp one_ep cells_ep can_ep bor_ep one_ip
attribute [local simp] cells_ip can_ip bor_ip one_nils cells_nils can_nils bor_nils one_emps cells_emps can_emps bor_emps one_zs cells_zs can_zs bor_zs one_inl cells_inl one_ref cells_ref can_ref bor_ref one_mapn cells_mapn can_mapn bor_mapn one_mp cells_mp can_mp bor_mp one_fn
attribute [local simp] cells_fn can_fn bor_fn one_nilf cells_nilf can_nilf bor_nilf one_agg cells_agg can_agg bor_agg one_tup cells_tup can_tup bor_tup one_any cells_any can_any bor_any can_cons can_nil rows_nils rows_emps rows_zs rows_inl rows_ref rows_str1 lenS_nils lenS_emps lenS_zs
attribute [local simp] lenS_inl lenS_ref ixS_inl ixS_ref cutS_nils cutS_emps cutS_zs cutS_ref convS_str convS_nils convS_emps convS_zs convS_inl convS_ref aYs_nils aYs_emps aYs_zs aYs_inl aYs_ref aYs_str eqN_nils neN_nils eqN_inl neN_inl eqN_ref neN_ref aClear_eq clearS_nils clearS_emps clearS_zs
attribute [local simp] clearS_ref normS_mk liveVs_nil liveVs_mk slotIds atV_tmp atV_tcell atV_cell AV.sub idOf nodupB idsOk gensOk gensLive gensSlots viewV_nil viewV_agg viewV_emps viewV_zs viewL_nil viewL_cons viewL_nil2 sl_view AV.gens Blk.gens Blk.gen AV.gensL mkT_length liveReg AV.reg
attribute [local simp] AV.regL slotBlks slotBlk Blk.reg regB regG isArr finish resVals resVal_tmp resVal_cell resTup final frzV frzL frzBs newIds backN t3 t5 t9 t23 t26 t30 t31 t37 t39 t40 t50 t60
attribute [local simp] e_i64_s
theorem ok_party_Acked (k : Nat) (x1 : Int) (x2 : List (Int × ByteArray)) (x3 : Int) (x4 : Int) (r : Int × (List (Int × ByteArray)) × Int × Int) (h : party_Acked k x1 x2 x3 x4 = some r) : CallR TT prg true 16 [(.agg [(.int .i64 x1), (sl 2 (List.map e_i64_s x2)), (.int .i64 x3)]), (.int .i64 x4)] [] (.tup [(.agg [(.int .i64 r.1), (sl 2 (List.map e_i64_s r.2.1)), (.int .i64 r.2.2.1)]), (.int .i64 r.2.2.2)]) [] := by
    unfold party_Acked at h
    refine CallR.of rfl rfl rfl rfl ?_
    obtain ⟨st0, hst0⟩ : ∃ s, s = begin [(.agg [(.int .i64 x1), (sl 2 (List.map e_i64_s x2)), (.int .i64 x3)]), (.int .i64 x4)] Try.f16.ntmps [] := ⟨_, rfl⟩
    rw [← hst0]
    obtain ⟨x5, e1, h⟩ := Option.bind_eq_some_iff.1 h
    obtain ⟨gc16_0, hgc16_0, k2, e3⟩ := ok_slices_Clone_18o k x2 _ e1
    cases gc16_0 with
    | true =>
      obtain ⟨x6, e4, h⟩ := Option.bind_eq_some_iff.1 h
      obtain ⟨k5, e6⟩ := ok_party_Right k x1 x5 x3 _ e4
      by_cases c7 : x6 = true
      · rw [if_pos c7] at h
        by_cases c8 : ltI x4 0 = true
        · rw [if_pos c8] at h
          replace e3 := acall_mono TT prg (show k2 ≤ (60 + k2 + k5) by omega) e3
          try simp only [List.map_append, List.map_cons, List.map_nil, List.length_nil, sl_nil, accV_t, accV_f, accH_t, accH_f, e_u8, e_str, e_i64_s] at e3
          replace e6 := acall_mono TT prg (show k5 ≤ (60 + k2 + k5) by omega) e6
          try simp only [List.map_append, List.map_cons, List.map_nil, List.length_nil, sl_nil, accV_t, accV_f, accH_t, accH_f, e_u8, e_str, e_i64_s] at e6
          have e9 : execL TT (acall TT prg (60 + k2 + k5)) (prg.C 16) (norm 0 (prg.N 16)) (60 + k2 + k5) (body Try.f16) st0 = execL TT (acall TT prg (60 + k2 + k5)) (prg.C 16) (norm 0 (prg.N 16)) (60 + k2 + k5) (body Try.f16) st0 := rfl
          conv at e9 =>
            rhs
            simp [Try.f16, N16, C16_13, C16_18, hst0, c7, c8, e3, e6]
          obtain ⟨st10, hst10, e9⟩ := name_it e9
          refine Rn.fin e9 ?_
          obtain rfl := Option.some.inj h
          simp [Try.f16, c7, c8, hst10]
        · rw [if_neg c8] at h
          replace c8 := eq_false_of_ne_true c8
          by_cases c11 : ltI x1 x4 = true
          · rw [if_pos c11] at h
            replace e3 := acall_mono TT prg (show k2 ≤ (60 + k2 + k5) by omega) e3
            try simp only [List.map_append, List.map_cons, List.map_nil, List.length_nil, sl_nil, accV_t, accV_f, accH_t, accH_f, e_u8, e_str, e_i64_s] at e3
            replace e6 := acall_mono TT prg (show k5 ≤ (60 + k2 + k5) by omega) e6
            try simp only [List.map_append, List.map_cons, List.map_nil, List.length_nil, sl_nil, accV_t, accV_f, accH_t, accH_f, e_u8, e_str, e_i64_s] at e6
            have e12 : execL TT (acall TT prg (60 + k2 + k5)) (prg.C 16) (norm 0 (prg.N 16)) (60 + k2 + k5) (body Try.f16) st0 = execL TT (acall TT prg (60 + k2 + k5)) (prg.C 16) (norm 0 (prg.N 16)) (60 + k2 + k5) (body Try.f16) st0 := rfl
            conv at e12 =>
              rhs
              simp [Try.f16, N16, C16_13, C16_18, hst0, c7, c8, c11, e3, e6]
            obtain ⟨st13, hst13, e12⟩ := name_it e12
            refine Rn.fin e12 ?_
            obtain rfl := Option.some.inj h
            simp [Try.f16, c7, c8, c11, hst13]
          · rw [if_neg c11] at h
            replace c11 := eq_false_of_ne_true c11
            obtain ⟨x7, e14, h⟩ := Option.bind_eq_some_iff.1 h
            obtain ⟨k15, e16⟩ := ok_slices_DeleteFunco k x5 x4 _ e14
            replace e3 := acall_mono TT prg (show k2 ≤ (60 + k2 + k5 + k15) by omega) e3
            try simp only [List.map_append, List.map_cons, List.map_nil, List.length_nil, sl_nil, accV_t, accV_f, accH_t, accH_f, e_u8, e_str, e_i64_s] at e3
            replace e6 := acall_mono TT prg (show k5 ≤ (60 + k2 + k5 + k15) by omega) e6
            try simp only [List.map_append, List.map_cons, List.map_nil, List.length_nil, sl_nil, accV_t, accV_f, accH_t, accH_f, e_u8, e_str, e_i64_s] at e6
            replace e16 := acall_mono TT prg (show k15 ≤ (60 + k2 + k5 + k15) by omega) e16
            try simp only [List.map_append, List.map_cons, List.map_nil, List.length_nil, sl_nil, accV_t, accV_f, accH_t, accH_f, e_u8, e_str, e_i64_s] at e16
            have e17 : execL TT (acall TT prg (60 + k2 + k5 + k15)) (prg.C 16) (norm 0 (prg.N 16)) (60 + k2 + k5 + k15) (body Try.f16) st0 = execL TT (acall TT prg (60 + k2 + k5 + k15)) (prg.C 16) (norm 0 (prg.N 16)) (60 + k2 + k5 + k15) (body Try.f16) st0 := rfl
            conv at e17 =>
              rhs
              simp [Try.f16, N16, C16_13, C16_18, C16_19, hst0, c7, c8, c11, e3, e6, e16]
            obtain ⟨st18, hst18, e17⟩ := name_it e17
            refine Rn.fin e17 ?_
            by_cases c19 : capI x7.1 x7.2.length = true
            · rw [if_pos c19] at h
              have c20 := capI_le c19
              obtain rfl := Option.some.inj h
              simp [Try.f16, c7, c8, c11, hst18, c19, c20]
            · rw [if_neg c19] at h
              replace c19 := eq_false_of_ne_true c19
              cases h
      · rw [if_neg c7] at h
        replace c7 := eq_false_of_ne_true c7
        replace e3 := acall_mono TT prg (show k2 ≤ (60 + k2 + k5) by omega) e3
        try simp only [List.map_append, List.map_cons, List.map_nil, List.length_nil, sl_nil, accV_t, accV_f, accH_t, accH_f, e_u8, e_str, e_i64_s] at e3
        replace e6 := acall_mono TT prg (show k5 ≤ (60 + k2 + k5) by omega) e6
        try simp only [List.map_append, List.map_cons, List.map_nil, List.length_nil, sl_nil, accV_t, accV_f, accH_t, accH_f, e_u8, e_str, e_i64_s] at e6
        have e21 : execL TT (acall TT prg (60 + k2 + k5)) (prg.C 16) (norm 0 (prg.N 16)) (60 + k2 + k5) (body Try.f16) st0 = execL TT (acall TT prg (60 + k2 + k5)) (prg.C 16) (norm 0 (prg.N 16)) (60 + k2 + k5) (body Try.f16) st0 := rfl
        conv at e21 =>
          rhs
          simp [Try.f16, N16, C16_13, C16_18, C16_19, hst0, c7, e3, e6]
        obtain ⟨st22, hst22, e21⟩ := name_it e21
        refine Rn.fin e21 ?_
        obtain rfl := Option.some.inj h
        simp [Try.f16, c7, hst22]
    | false =>
      have hl42 := hgc16_0 rfl
      subst hl42
      try simp only [List.length_nil, List.nil_append] at h
      obtain ⟨x6, e23, h⟩ := Option.bind_eq_some_iff.1 h
      obtain ⟨k24, e25⟩ := ok_party_Right k x1 ([] : List (Int × ByteArray)) x3 _ e23
      by_cases c26 : x6 = true
      · rw [if_pos c26] at h
        by_cases c27 : ltI x4 0 = true
        · rw [if_pos c27] at h
          replace e3 := acall_mono TT prg (show k2 ≤ (60 + k2 + k24) by omega) e3
          try simp only [List.map_append, List.map_cons, List.map_nil, List.length_nil, sl_nil, accV_t, accV_f, accH_t, accH_f, e_u8, e_str, e_i64_s] at e3
          replace e25 := acall_mono TT prg (show k24 ≤ (60 + k2 + k24) by omega) e25
          try simp only [List.map_append, List.map_cons, List.map_nil, List.length_nil, sl_nil, accV_t, accV_f, accH_t, accH_f, e_u8, e_str, e_i64_s] at e25
          have e28 : execL TT (acall TT prg (60 + k2 + k24)) (prg.C 16) (norm 0 (prg.N 16)) (60 + k2 + k24) (body Try.f16) st0 = execL TT (acall TT prg (60 + k2 + k24)) (prg.C 16) (norm 0 (prg.N 16)) (60 + k2 + k24) (body Try.f16) st0 := rfl
          conv at e28 =>
            rhs
            simp [Try.f16, N16, C16_13, C16_18, C16_19, hst0, c26, c27, e3, e25]
          obtain ⟨st29, hst29, e28⟩ := name_it e28
          refine Rn.fin e28 ?_
          obtain rfl := Option.some.inj h
          simp [Try.f16, c26, c27, hst29]
        · rw [if_neg c27] at h
          replace c27 := eq_false_of_ne_true c27
          by_cases c30 : ltI x1 x4 = true
          · rw [if_pos c30] at h
            replace e3 := acall_mono TT prg (show k2 ≤ (60 + k2 + k24) by omega) e3
            try simp only [List.map_append, List.map_cons, List.map_nil, List.length_nil, sl_nil, accV_t, accV_f, accH_t, accH_f, e_u8, e_str, e_i64_s] at e3
            replace e25 := acall_mono TT prg (show k24 ≤ (60 + k2 + k24) by omega) e25
            try simp only [List.map_append, List.map_cons, List.map_nil, List.length_nil, sl_nil, accV_t, accV_f, accH_t, accH_f, e_u8, e_str, e_i64_s] at e25
            have e31 : execL TT (acall TT prg (60 + k2 + k24)) (prg.C 16) (norm 0 (prg.N 16)) (60 + k2 + k24) (body Try.f16) st0 = execL TT (acall TT prg (60 + k2 + k24)) (prg.C 16) (norm 0 (prg.N 16)) (60 + k2 + k24) (body Try.f16) st0 := rfl
            conv at e31 =>
              rhs
              simp [Try.f16, N16, C16_13, C16_18, C16_19, hst0, c26, c27, c30, e3, e25]
            obtain ⟨st32, hst32, e31⟩ := name_it e31
            refine Rn.fin e31 ?_
            obtain rfl := Option.some.inj h
            simp [Try.f16, c26, c27, c30, hst32]
          · rw [if_neg c30] at h
            replace c30 := eq_false_of_ne_true c30
            obtain ⟨x7, e33, h⟩ := Option.bind_eq_some_iff.1 h
            obtain ⟨hr, k34, e35⟩ := ok_slices_DeleteFunc_e k ([] : List (Int × ByteArray)) x4 _ rfl e33
            subst hr
            try dsimp only at h
            replace e3 := acall_mono TT prg (show k2 ≤ (60 + k2 + k24 + k34) by omega) e3
            try simp only [List.map_append, List.map_cons, List.map_nil, List.length_nil, sl_nil, accV_t, accV_f, accH_t, accH_f, e_u8, e_str, e_i64_s] at e3
            replace e25 := acall_mono TT prg (show k24 ≤ (60 + k2 + k24 + k34) by omega) e25
            try simp only [List.map_append, List.map_cons, List.map_nil, List.length_nil, sl_nil, accV_t, accV_f, accH_t, accH_f, e_u8, e_str, e_i64_s] at e25
            replace e35 := acall_mono TT prg (show k34 ≤ (60 + k2 + k24 + k34) by omega) e35
            try simp only [List.map_append, List.map_cons, List.map_nil, List.length_nil, sl_nil, accV_t, accV_f, accH_t, accH_f, e_u8, e_str, e_i64_s] at e35
            have e36 : execL TT (acall TT prg (60 + k2 + k24 + k34)) (prg.C 16) (norm 0 (prg.N 16)) (60 + k2 + k24 + k34) (body Try.f16) st0 = execL TT (acall TT prg (60 + k2 + k24 + k34)) (prg.C 16) (norm 0 (prg.N 16)) (60 + k2 + k24 + k34) (body Try.f16) st0 := rfl
            conv at e36 =>
              rhs
              simp [Try.f16, N16, C16_13, C16_18, C16_19, hst0, c26, c27, c30, e3, e25, e35]
            obtain ⟨st37, hst37, e36⟩ := name_it e36
            refine Rn.fin e36 ?_
            by_cases c38 : capI 0 ([] : List (Int × ByteArray)).length = true
            · rw [if_pos c38] at h
              have c39 := capI_le c38
              obtain rfl := Option.some.inj h
              simp [Try.f16, c26, c27, c30, hst37, c38, c39]
            · rw [if_neg c38] at h
              replace c38 := eq_false_of_ne_true c38
              cases h
      · rw [if_neg c26] at h
        replace c26 := eq_false_of_ne_true c26
        replace e3 := acall_mono TT prg (show k2 ≤ (60 + k2 + k24) by omega) e3
        try simp only [List.map_append, List.map_cons, List.map_nil, List.length_nil, sl_nil, accV_t, accV_f, accH_t, accH_f, e_u8, e_str, e_i64_s] at e3
        replace e25 := acall_mono TT prg (show k24 ≤ (60 + k2 + k24) by omega) e25
        try simp only [List.map_append, List.map_cons, List.map_nil, List.length_nil, sl_nil, accV_t, accV_f, accH_t, accH_f, e_u8, e_str, e_i64_s] at e25
        have e40 : execL TT (acall TT prg (60 + k2 + k24)) (prg.C 16) (norm 0 (prg.N 16)) (60 + k2 + k24) (body Try.f16) st0 = execL TT (acall TT prg (60 + k2 + k24)) (prg.C 16) (norm 0 (prg.N 16)) (60 + k2 + k24) (body Try.f16) st0 := rfl
        conv at e40 =>
          rhs
          simp [Try.f16, N16, C16_13, C16_18, C16_19, hst0, c26, e3, e25]
        obtain ⟨st41, hst41, e40⟩ := name_it e40
        refine Rn.fin e40 ?_
        obtain rfl := Option.some.inj h
        simp [Try.f16, c26, hst41]
end Go.Ws
