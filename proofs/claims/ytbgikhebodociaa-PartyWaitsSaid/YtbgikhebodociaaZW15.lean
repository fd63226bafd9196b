/-
  party_Say on the abstract machine. (Printed by my own program.)
  Conditions: none.
-/
import Derived.Test.YtbgikhebodociaaZPre
import Derived.Test.YtbgikhebodociaaZPure
import Derived.Test.YtbgikhebodociaaZW13
import Derived.Test.YtbgikhebodociaaZW18o
set_option linter.unusedVariables false
set_option linter.unusedSimpArgs false
namespace Go.Ws
open Go.Proofs
set_option linter.unusedSimpArgs false
set_option linter.unusedVariables false
set_option maxRecDepth 100000
set_option maxHeartbeats 4000000
attribute [local simp] body spine at_ sub execL exec norm_none norm_some begin0 begin1 begin2 begin3 begin4 begin5 runRegion runOps runOpsD stepF wantedA_none wantedA_some isB evA_tmp evA_const evA_func aop tget_mk_eq tget_mk_ne mk_set ofVal ofScalar
attribute [local simp] St.after putA upd AM.of AM.bind AM.val AM.run upOk aBin_add aBin_sub aBin_mul aBin_quo aBin_rem aBin_and aBin_or aBin_xor aBin_andNot aBin_shl aBin_shr aBin_lss aBin_gtr aBin_leq aBin_geq aBin_eql aBin_neq aBin_eqS aBin_neS aBin_eqB aBin_neB aBin_eqG
attribute [local simp] aBin_neG aBin_eqP aBin_neP aBin_eqN aBin_neN aBin_neM aBin_neMn aEq fieldsEq_cons fieldsEq_nil scEq_int scEq_str scEq_bool andO_some nilEq nilK aUn_neg aUn_not aUn_xor aMin_max aMin_min aIndexAddr_eq ixS_sl ixA aIndex aAlloc aBox aLoad aStore aFieldAddr
attribute [local simp] aField cellsAt mkVal TI.isAgg setAt sl_one sl_refs sl_gens sl_ren sl_reg sl_hasInl sl_can sl_cells sl_borrow sl_frz sl_rows sl_nil sl_isStr zs_rows borrowL_sl aBuiltin evL evP evO aLen_eq lenS_sl lenM lenT aBuild aFill
attribute [local simp] aBuildSlice aParts aConvert_eq convI convS_sl aToStr_eq toStrA_map bytesA aAppend_eq grow aSlice_eq cutS_sl cutT aBound_none aBound_int aMakeSlice callOp borrowL borrowC reach AV.refs AV.refsL AV.ren AV.renL Blk.ren Blk.refs AV.hasInl AV.hasInlL backId flatB
attribute [local simp] edgesOk feetOk befs befOne feet footOf looks Op.operands Call.operands Foot.apart disj Region.binds List.range List.range.loop Nat.testBit List.idxOf_cons List.idxOf_nil e_u8 e_str accV_t accV_f accB_t accB_f accH_t accH_f leI_zero leI_nI tN_lit tN_nI roomI_lit
attribute [local simp] isZ_zero isZ_pos List.take_of_length_le ixA1 aYs_sh one_bool cells_bool can_bool bor_bool one_int cells_int can_int bor_int one_str cells_str can_str bor_str one_nilp cells_nilp can_nilp bor_nilp one_hp cells_hp can_hp bor_hp one_ep cells_ep can_ep bor_ep one_ip
attribute [local simp] cells_ip can_ip bor_ip one_nils cells_nils can_nils bor_nils one_emps cells_emps can_emps bor_emps one_zs cells_zs can_zs bor_zs one_inl cells_inl one_ref cells_ref can_ref bor_ref one_mapn cells_mapn can_mapn bor_mapn one_mp cells_mp can_mp bor_mp one_fn
attribute [local simp] cells_fn can_fn bor_fn one_nilf cells_nilf can_nilf bor_nilf one_agg cells_agg can_agg bor_agg one_tup cells_tup can_tup bor_tup one_any cells_any can_any bor_any can_cons can_nil rows_nils rows_emps rows_zs rows_inl rows_ref rows_str1 lenS_nils lenS_emps lenS_zs
attribute [local simp] lenS_inl lenS_ref ixS_inl ixS_ref cutS_nils cutS_emps cutS_zs cutS_ref convS_str convS_nils convS_emps convS_zs convS_inl convS_ref aYs_nils aYs_emps aYs_zs aYs_inl aYs_ref aYs_str eqN_nils neN_nils eqN_inl neN_inl eqN_ref neN_ref aClear_eq clearS_nils clearS_emps clearS_zs
attribute [local simp] clearS_ref normS_mk liveVs_nil liveVs_mk slotIds atV_tmp atV_tcell atV_cell AV.sub idOf nodupB idsOk gensOk gensLive gensSlots viewV_nil viewV_agg viewV_emps viewV_zs viewL_nil viewL_cons viewL_nil2 sl_view AV.gens Blk.gens Blk.gen AV.gensL mkT_length liveReg AV.reg
attribute [local simp] AV.regL slotBlks slotBlk Blk.reg regB regG isArr finish resVals resVal_tmp resVal_cell resTup final frzV frzL frzBs newIds backN t3 t5 t9 t23 t26 t30 t31 t37 t39 t40 t50 t60
attribute [local simp] e_i64_s
theorem ok_party_Say (k : Nat) (x1 : Int) (x2 : List (Int × ByteArray)) (x3 : Int) (x4 : ByteArray) (r : Int × (List (Int × ByteArray)) × Int × Int × ByteArray × Int) (h : party_Say k x1 x2 x3 x4 = some r) : CallR TT prg true 15 [(.agg [(.int .i64 x1), (sl 2 (List.map e_i64_s x2)), (.int .i64 x3)]), (.str x4)] [] (.tup [(.agg [(.int .i64 r.1), (sl 2 (List.map e_i64_s r.2.1)), (.int .i64 r.2.2.1)]), (.agg [(.int .i64 r.2.2.2.1), (.str r.2.2.2.2.1)]), (.int .i64 r.2.2.2.2.2)]) [] := by
    unfold party_Say at h
    refine CallR.of rfl rfl rfl rfl ?_
    obtain ⟨st0, hst0⟩ : ∃ s, s = begin [(.agg [(.int .i64 x1), (sl 2 (List.map e_i64_s x2)), (.int .i64 x3)]), (.str x4)] Try.f15.ntmps [] := ⟨_, rfl⟩
    rw [← hst0]
    obtain ⟨x5, e1, h⟩ := Option.bind_eq_some_iff.1 h
    obtain ⟨gc15_0, hgc15_0, k2, e3⟩ := ok_slices_Clone_18o k x2 _ e1
    cases gc15_0 with
    | true =>
      obtain ⟨x6, e4, h⟩ := Option.bind_eq_some_iff.1 h
      obtain ⟨k5, e6⟩ := ok_party_Right k x1 x5 x3 _ e4
      by_cases c7 : x6 = true
      · rw [if_pos c7] at h
        by_cases c8 : ltI 500 (ssz x4) = true
        · rw [if_pos c8] at h
          replace e3 := acall_mono TT prg (show k2 ≤ (60 + k2 + k5) by omega) e3
          try simp only [List.map_append, List.map_cons, List.map_nil, List.length_nil, sl_nil, accV_t, accV_f, accH_t, accH_f, e_u8, e_str, e_i64_s] at e3
          replace e6 := acall_mono TT prg (show k5 ≤ (60 + k2 + k5) by omega) e6
          try simp only [List.map_append, List.map_cons, List.map_nil, List.length_nil, sl_nil, accV_t, accV_f, accH_t, accH_f, e_u8, e_str, e_i64_s] at e6
          have e9 : execL TT (acall TT prg (60 + k2 + k5)) (prg.C 15) (norm 0 (prg.N 15)) (60 + k2 + k5) (body Try.f15) st0 = execL TT (acall TT prg (60 + k2 + k5)) (prg.C 15) (norm 0 (prg.N 15)) (60 + k2 + k5) (body Try.f15) st0 := rfl
          conv at e9 =>
            rhs
            simp [Try.f15, N15, C15_13, C15_18, hst0, c7, c8, e3, e6]
          obtain ⟨st10, hst10, e9⟩ := name_it e9
          refine Rn.fin e9 ?_
          obtain rfl := Option.some.inj h
          simp [Try.f15, c7, c8, hst10]
        · rw [if_neg c8] at h
          replace c8 := eq_false_of_ne_true c8
          by_cases c11 : eqI x1 1048576 = true
          · rw [if_pos c11] at h
            replace e3 := acall_mono TT prg (show k2 ≤ (60 + k2 + k5) by omega) e3
            try simp only [List.map_append, List.map_cons, List.map_nil, List.length_nil, sl_nil, accV_t, accV_f, accH_t, accH_f, e_u8, e_str, e_i64_s] at e3
            replace e6 := acall_mono TT prg (show k5 ≤ (60 + k2 + k5) by omega) e6
            try simp only [List.map_append, List.map_cons, List.map_nil, List.length_nil, sl_nil, accV_t, accV_f, accH_t, accH_f, e_u8, e_str, e_i64_s] at e6
            have e12 : execL TT (acall TT prg (60 + k2 + k5)) (prg.C 15) (norm 0 (prg.N 15)) (60 + k2 + k5) (body Try.f15) st0 = execL TT (acall TT prg (60 + k2 + k5)) (prg.C 15) (norm 0 (prg.N 15)) (60 + k2 + k5) (body Try.f15) st0 := rfl
            conv at e12 =>
              rhs
              simp [Try.f15, N15, C15_13, C15_18, hst0, c7, c8, c11, e3, e6]
            obtain ⟨st13, hst13, e12⟩ := name_it e12
            refine Rn.fin e12 ?_
            obtain rfl := Option.some.inj h
            simp [Try.f15, c7, c8, c11, hst13]
          · rw [if_neg c11] at h
            replace c11 := eq_false_of_ne_true c11
            by_cases c14 : ltI (nI x5.length) x3 = true
            · rw [if_pos c14] at h
              by_cases c15 : roomI ((x5.length + 1) * 24) = true
              · rw [if_pos c15] at h
                replace e3 := acall_mono TT prg (show k2 ≤ (60 + k2 + k5) by omega) e3
                try simp only [List.map_append, List.map_cons, List.map_nil, List.length_nil, sl_nil, accV_t, accV_f, accH_t, accH_f, e_u8, e_str, e_i64_s] at e3
                replace e6 := acall_mono TT prg (show k5 ≤ (60 + k2 + k5) by omega) e6
                try simp only [List.map_append, List.map_cons, List.map_nil, List.length_nil, sl_nil, accV_t, accV_f, accH_t, accH_f, e_u8, e_str, e_i64_s] at e6
                have e16 : execL TT (acall TT prg (60 + k2 + k5)) (prg.C 15) (norm 0 (prg.N 15)) (60 + k2 + k5) (body Try.f15) st0 = execL TT (acall TT prg (60 + k2 + k5)) (prg.C 15) (norm 0 (prg.N 15)) (60 + k2 + k5) (body Try.f15) st0 := rfl
                conv at e16 =>
                  rhs
                  simp [Try.f15, N15, C15_13, C15_18, hst0, c7, c8, c11, c14, c15, e3, e6]
                obtain ⟨st17, hst17, e16⟩ := name_it e16
                refine Rn.fin e16 ?_
                obtain rfl := Option.some.inj h
                simp [Try.f15, c7, c8, c11, c14, c15, hst17]
              · rw [if_neg c15] at h
                replace c15 := eq_false_of_ne_true c15
                cases h
            · rw [if_neg c14] at h
              replace c14 := eq_false_of_ne_true c14
              replace e3 := acall_mono TT prg (show k2 ≤ (60 + k2 + k5) by omega) e3
              try simp only [List.map_append, List.map_cons, List.map_nil, List.length_nil, sl_nil, accV_t, accV_f, accH_t, accH_f, e_u8, e_str, e_i64_s] at e3
              replace e6 := acall_mono TT prg (show k5 ≤ (60 + k2 + k5) by omega) e6
              try simp only [List.map_append, List.map_cons, List.map_nil, List.length_nil, sl_nil, accV_t, accV_f, accH_t, accH_f, e_u8, e_str, e_i64_s] at e6
              have e18 : execL TT (acall TT prg (60 + k2 + k5)) (prg.C 15) (norm 0 (prg.N 15)) (60 + k2 + k5) (body Try.f15) st0 = execL TT (acall TT prg (60 + k2 + k5)) (prg.C 15) (norm 0 (prg.N 15)) (60 + k2 + k5) (body Try.f15) st0 := rfl
              conv at e18 =>
                rhs
                simp [Try.f15, N15, C15_13, C15_18, hst0, c7, c8, c11, c14, e3, e6]
              obtain ⟨st19, hst19, e18⟩ := name_it e18
              refine Rn.fin e18 ?_
              obtain rfl := Option.some.inj h
              simp [Try.f15, c7, c8, c11, c14, hst19]
      · rw [if_neg c7] at h
        replace c7 := eq_false_of_ne_true c7
        replace e3 := acall_mono TT prg (show k2 ≤ (60 + k2 + k5) by omega) e3
        try simp only [List.map_append, List.map_cons, List.map_nil, List.length_nil, sl_nil, accV_t, accV_f, accH_t, accH_f, e_u8, e_str, e_i64_s] at e3
        replace e6 := acall_mono TT prg (show k5 ≤ (60 + k2 + k5) by omega) e6
        try simp only [List.map_append, List.map_cons, List.map_nil, List.length_nil, sl_nil, accV_t, accV_f, accH_t, accH_f, e_u8, e_str, e_i64_s] at e6
        have e20 : execL TT (acall TT prg (60 + k2 + k5)) (prg.C 15) (norm 0 (prg.N 15)) (60 + k2 + k5) (body Try.f15) st0 = execL TT (acall TT prg (60 + k2 + k5)) (prg.C 15) (norm 0 (prg.N 15)) (60 + k2 + k5) (body Try.f15) st0 := rfl
        conv at e20 =>
          rhs
          simp [Try.f15, N15, C15_13, C15_18, hst0, c7, e3, e6]
        obtain ⟨st21, hst21, e20⟩ := name_it e20
        refine Rn.fin e20 ?_
        obtain rfl := Option.some.inj h
        simp [Try.f15, c7, hst21]
    | false =>
      have hl40 := hgc15_0 rfl
      subst hl40
      try simp only [List.length_nil, List.nil_append] at h
      obtain ⟨x6, e22, h⟩ := Option.bind_eq_some_iff.1 h
      obtain ⟨k23, e24⟩ := ok_party_Right k x1 ([] : List (Int × ByteArray)) x3 _ e22
      by_cases c25 : x6 = true
      · rw [if_pos c25] at h
        by_cases c26 : ltI 500 (ssz x4) = true
        · rw [if_pos c26] at h
          replace e3 := acall_mono TT prg (show k2 ≤ (60 + k2 + k23) by omega) e3
          try simp only [List.map_append, List.map_cons, List.map_nil, List.length_nil, sl_nil, accV_t, accV_f, accH_t, accH_f, e_u8, e_str, e_i64_s] at e3
          replace e24 := acall_mono TT prg (show k23 ≤ (60 + k2 + k23) by omega) e24
          try simp only [List.map_append, List.map_cons, List.map_nil, List.length_nil, sl_nil, accV_t, accV_f, accH_t, accH_f, e_u8, e_str, e_i64_s] at e24
          have e27 : execL TT (acall TT prg (60 + k2 + k23)) (prg.C 15) (norm 0 (prg.N 15)) (60 + k2 + k23) (body Try.f15) st0 = execL TT (acall TT prg (60 + k2 + k23)) (prg.C 15) (norm 0 (prg.N 15)) (60 + k2 + k23) (body Try.f15) st0 := rfl
          conv at e27 =>
            rhs
            simp [Try.f15, N15, C15_13, C15_18, hst0, c25, c26, e3, e24]
          obtain ⟨st28, hst28, e27⟩ := name_it e27
          refine Rn.fin e27 ?_
          obtain rfl := Option.some.inj h
          simp [Try.f15, c25, c26, hst28]
        · rw [if_neg c26] at h
          replace c26 := eq_false_of_ne_true c26
          by_cases c29 : eqI x1 1048576 = true
          · rw [if_pos c29] at h
            replace e3 := acall_mono TT prg (show k2 ≤ (60 + k2 + k23) by omega) e3
            try simp only [List.map_append, List.map_cons, List.map_nil, List.length_nil, sl_nil, accV_t, accV_f, accH_t, accH_f, e_u8, e_str, e_i64_s] at e3
            replace e24 := acall_mono TT prg (show k23 ≤ (60 + k2 + k23) by omega) e24
            try simp only [List.map_append, List.map_cons, List.map_nil, List.length_nil, sl_nil, accV_t, accV_f, accH_t, accH_f, e_u8, e_str, e_i64_s] at e24
            have e30 : execL TT (acall TT prg (60 + k2 + k23)) (prg.C 15) (norm 0 (prg.N 15)) (60 + k2 + k23) (body Try.f15) st0 = execL TT (acall TT prg (60 + k2 + k23)) (prg.C 15) (norm 0 (prg.N 15)) (60 + k2 + k23) (body Try.f15) st0 := rfl
            conv at e30 =>
              rhs
              simp [Try.f15, N15, C15_13, C15_18, hst0, c25, c26, c29, e3, e24]
            obtain ⟨st31, hst31, e30⟩ := name_it e30
            refine Rn.fin e30 ?_
            obtain rfl := Option.some.inj h
            simp [Try.f15, c25, c26, c29, hst31]
          · rw [if_neg c29] at h
            replace c29 := eq_false_of_ne_true c29
            by_cases c32 : ltI (nI 0) x3 = true
            · rw [if_pos c32] at h
              by_cases c33 : roomI ((0 + 1) * 24) = true
              · rw [if_pos c33] at h
                replace e3 := acall_mono TT prg (show k2 ≤ (60 + k2 + k23) by omega) e3
                try simp only [List.map_append, List.map_cons, List.map_nil, List.length_nil, sl_nil, accV_t, accV_f, accH_t, accH_f, e_u8, e_str, e_i64_s] at e3
                replace e24 := acall_mono TT prg (show k23 ≤ (60 + k2 + k23) by omega) e24
                try simp only [List.map_append, List.map_cons, List.map_nil, List.length_nil, sl_nil, accV_t, accV_f, accH_t, accH_f, e_u8, e_str, e_i64_s] at e24
                have e34 : execL TT (acall TT prg (60 + k2 + k23)) (prg.C 15) (norm 0 (prg.N 15)) (60 + k2 + k23) (body Try.f15) st0 = execL TT (acall TT prg (60 + k2 + k23)) (prg.C 15) (norm 0 (prg.N 15)) (60 + k2 + k23) (body Try.f15) st0 := rfl
                conv at e34 =>
                  rhs
                  simp [Try.f15, N15, C15_13, C15_18, hst0, c25, c26, c29, c32, c33, e3, e24]
                obtain ⟨st35, hst35, e34⟩ := name_it e34
                refine Rn.fin e34 ?_
                obtain rfl := Option.some.inj h
                simp [Try.f15, c25, c26, c29, c32, c33, hst35]
              · rw [if_neg c33] at h
                replace c33 := eq_false_of_ne_true c33
                cases h
            · rw [if_neg c32] at h
              replace c32 := eq_false_of_ne_true c32
              replace e3 := acall_mono TT prg (show k2 ≤ (60 + k2 + k23) by omega) e3
              try simp only [List.map_append, List.map_cons, List.map_nil, List.length_nil, sl_nil, accV_t, accV_f, accH_t, accH_f, e_u8, e_str, e_i64_s] at e3
              replace e24 := acall_mono TT prg (show k23 ≤ (60 + k2 + k23) by omega) e24
              try simp only [List.map_append, List.map_cons, List.map_nil, List.length_nil, sl_nil, accV_t, accV_f, accH_t, accH_f, e_u8, e_str, e_i64_s] at e24
              have e36 : execL TT (acall TT prg (60 + k2 + k23)) (prg.C 15) (norm 0 (prg.N 15)) (60 + k2 + k23) (body Try.f15) st0 = execL TT (acall TT prg (60 + k2 + k23)) (prg.C 15) (norm 0 (prg.N 15)) (60 + k2 + k23) (body Try.f15) st0 := rfl
              conv at e36 =>
                rhs
                simp [Try.f15, N15, C15_13, C15_18, hst0, c25, c26, c29, c32, e3, e24]
              obtain ⟨st37, hst37, e36⟩ := name_it e36
              refine Rn.fin e36 ?_
              obtain rfl := Option.some.inj h
              simp [Try.f15, c25, c26, c29, c32, hst37]
      · rw [if_neg c25] at h
        replace c25 := eq_false_of_ne_true c25
        replace e3 := acall_mono TT prg (show k2 ≤ (60 + k2 + k23) by omega) e3
        try simp only [List.map_append, List.map_cons, List.map_nil, List.length_nil, sl_nil, accV_t, accV_f, accH_t, accH_f, e_u8, e_str, e_i64_s] at e3
        replace e24 := acall_mono TT prg (show k23 ≤ (60 + k2 + k23) by omega) e24
        try simp only [List.map_append, List.map_cons, List.map_nil, List.length_nil, sl_nil, accV_t, accV_f, accH_t, accH_f, e_u8, e_str, e_i64_s] at e24
        have e38 : execL TT (acall TT prg (60 + k2 + k23)) (prg.C 15) (norm 0 (prg.N 15)) (60 + k2 + k23) (body Try.f15) st0 = execL TT (acall TT prg (60 + k2 + k23)) (prg.C 15) (norm 0 (prg.N 15)) (60 + k2 + k23) (body Try.f15) st0 := rfl
        conv at e38 =>
          rhs
          simp [Try.f15, N15, C15_13, C15_18, hst0, c25, e3, e24]
        obtain ⟨st39, hst39, e38⟩ := name_it e38
        refine Rn.fin e38 ?_
        obtain rfl := Option.some.inj h
        simp [Try.f15, c25, hst39]
end Go.Ws
