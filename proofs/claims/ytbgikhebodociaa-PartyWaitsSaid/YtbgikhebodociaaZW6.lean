/-
  law16_PartyWaits on the abstract machine. (Printed by my own program.)
  Conditions: none.
-/
import Derived.Test.YtbgikhebodociaaZPre
import Derived.Test.YtbgikhebodociaaZPure
import Derived.Test.YtbgikhebodociaaZW15
import Derived.Test.YtbgikhebodociaaZW16
set_option linter.unusedVariables false
set_option linter.unusedSimpArgs false
namespace Go.Ws
open Go.Proofs
set_option linter.unusedSimpArgs false
set_option linter.unusedVariables false
set_option maxRecDepth 100000
set_option maxHeartbeats 4000000
attribute [local simp] body spine at_ sub execL exec norm_none norm_some begin0 begin1 begin2 begin3 begin4 begin5 runRegion runOps runOpsD stepF wantedA_none wantedA_some isB evA_tmp evA_const evA_func aop tget_mk_eq tget_mk_ne mk_set ofVal ofScalar
attribute [local simp] St.after putA upd AM.of AM.bind AM.val AM.run upOk aBin_add aBin_sub aBin_mul aBin_quo aBin_rem aBin_and aBin_or aBin_xor aBin_andNot aBin_shl aBin_shr aBin_lss aBin_gtr aBin_leq aBin_geq aBin_eql aBin_neq aBin_eqS aBin_neS aBin_eqB aBin_neB aBin_eqG
attribute [local simp] aBin_neG aBin_eqP aBin_neP aBin_eqN aBin_neN aBin_neM aBin_neMn aEq fieldsEq_cons fieldsEq_nil scEq_int scEq_str scEq_bool andO_some nilEq nilK aUn_neg aUn_not aUn_xor aMin_max aMin_min aIndexAddr_eq ixS_sl ixA aIndex aAlloc aBox aLoad aStore aFieldAddr
attribute [local simp] aField cellsAt mkVal TI.isAgg setAt sl_one sl_refs sl_gens sl_ren sl_reg sl_hasInl sl_can sl_cells sl_borrow sl_frz sl_rows sl_nil sl_isStr zs_rows borrowL_sl aBuiltin evL evP evO aLen_eq lenS_sl lenM lenT aBuild aFill
attribute [local simp] aBuildSlice aParts aConvert_eq convI convS_sl aToStr_eq toStrA_map bytesA aAppend_eq grow aSlice_eq cutS_sl cutT aBound_none aBound_int aMakeSlice callOp borrowL borrowC reach AV.refs AV.refsL AV.ren AV.renL Blk.ren Blk.refs AV.hasInl AV.hasInlL backId flatB
attribute [local simp] edgesOk feetOk befs befOne feet footOf looks Op.operands Call.operands Foot.apart disj Region.binds List.range List.range.loop Nat.testBit List.idxOf_cons List.idxOf_nil e_u8 e_str accV_t accV_f accB_t accB_f accH_t accH_f leI_zero leI_nI tN_lit tN_nI roomI_lit
attribute [local simp] isZ_zero isZ_pos List.take_of_length_le ixA1 aYs_sh one_bool cells_bool can_bool bor_bool one_int cells_int can_int bor_int one_str cells_str can_str bor_str one_nilp cells_nilp can_nilp bor_nilp one_hp cells_hp can_hp bor_hp one_ep cells_ep can_ep bor_ep one_ip
attribute [local simp] cells_ip can_ip bor_ip one_nils cells_nils can_nils bor_nils one_emps cells_emps can_emps bor_emps one_zs cells_zs can_zs bor_zs one_inl cells_inl one_ref cells_ref can_ref bor_ref one_mapn cells_mapn can_mapn bor_mapn one_mp cells_mp can_mp bor_mp one_fn
attribute [local simp] cells_fn can_fn bor_fn one_nilf cells_nilf can_nilf bor_nilf one_agg cells_agg can_agg bor_agg one_tup cells_tup can_tup bor_tup one_any cells_any can_any bor_any can_cons can_nil rows_nils rows_emps rows_zs rows_inl rows_ref rows_str1 lenS_nils lenS_emps lenS_zs
attribute [local simp] lenS_inl lenS_ref ixS_inl ixS_ref cutS_nils cutS_emps cutS_zs cutS_ref convS_str convS_nils convS_emps convS_zs convS_inl convS_ref aYs_nils aYs_emps aYs_zs aYs_inl aYs_ref aYs_str eqN_nils neN_nils eqN_inl neN_inl eqN_ref neN_ref aClear_eq clearS_nils clearS_emps clearS_zs
attribute [local simp] clearS_ref normS_mk liveVs_nil liveVs_mk slotIds atV_tmp atV_tcell atV_cell AV.sub idOf nodupB idsOk gensOk gensLive gensSlots viewV_nil viewV_agg viewV_emps viewV_zs viewL_nil viewL_cons viewL_nil2 sl_view AV.gens Blk.gens Blk.gen AV.gensL mkT_length liveReg AV.reg
attribute [local simp] AV.regL slotBlks slotBlk Blk.reg regB regG isArr finish resVals resVal_tmp resVal_cell resTup final frzV frzL frzBs newIds backN t3 t5 t9 t23 t26 t30 t31 t37 t39 t40 t50 t60
attribute [local simp] e_i64_s
def S6_23 (x1 : List ByteArray) (x2 : List Int) (v6001_1 : Int) (v6011_1 : Int) (v6011_2 : Int) (v6011_3 : List (Int × ByteArray)) (v6011_4 : Int) (v6011_5 : Int) (v6011_6 : List (Int × ByteArray)) (v6011_7 : Int) (v6011_8 : List ByteArray) (g6010_1 : Bool) : St := ⟨mkT 132 [(1, (sl 1 (List.map e_u8 x2))), (5, (.hp 0 0)), (6, (accV g6010_1 1 1 (v6011_8.length))), (15, (.int .i64 v6011_2)), (29, (sl 1 (List.map e_str x1))), (30, (.int .i64 (nI x1.length))), (31, (.int .i64 v6001_1)), (101, (sl 2 (List.map e_i64_s v6011_3))), (102, (.int .i64 v6011_4)), (103, (.int .i64 v6011_1))], [(.row [(.int .i64 v6011_5), (sl 2 (List.map e_i64_s v6011_6)), (.int .i64 v6011_7)]), (accB g6010_1 1 (List.map e_str v6011_8) false)]⟩
def X6_23 (x1 : List ByteArray) (x2 : List Int) (v6001_1 : Int) (v6012_1 : Int) (v6012_2 : List (Int × ByteArray)) (v6012_3 : Int) (v6012_4 : List ByteArray) (xg0 : Bool) : St := ⟨mkT 132 [(1, (sl 1 (List.map e_u8 x2))), (5, (.hp 0 0)), (6, (accV xg0 1 1 (v6012_4.length))), (29, (sl 1 (List.map e_str x1))), (30, (.int .i64 (nI x1.length))), (31, (.int .i64 v6001_1))], [(.row [(.int .i64 v6012_1), (sl 2 (List.map e_i64_s v6012_2)), (.int .i64 v6012_3)]), (accB xg0 1 (List.map e_str v6012_4) false)]⟩
noncomputable def L6_1 : Code := at_ Try.f6 [1, 1, 1, 1, 1, 0, 1, 4, 5, 1, 1, 0, 4, 1, 1, 1, 1, 1, 1, 1, 1, 4, 5]
def S6_8 (x1 : List ByteArray) (x2 : List Int) (v6001_1 : Int) (v6001_2 : Int) (v6001_3 : List (Int × ByteArray)) (v6001_4 : Int) (v6001_5 : List ByteArray) (g6000_1 : Bool) : St := ⟨mkT 132 [(1, (sl 1 (List.map e_u8 x2))), (5, (.hp 0 0)), (6, (accV g6000_1 1 1 (v6001_5.length))), (29, (sl 1 (List.map e_str x1))), (30, (.int .i64 (nI x1.length))), (31, (.int .i64 v6001_1))], [(.row [(.int .i64 v6001_2), (sl 2 (List.map e_i64_s v6001_3)), (.int .i64 v6001_4)]), (accB g6000_1 1 (List.map e_str v6001_5) false)]⟩
def X6_8 (v6002_1 : Int) (v6002_2 : List (Int × ByteArray)) (v6002_3 : Int) (v6002_4 : List ByteArray) (xg0 : Bool) : St := ⟨mkT 132 [(5, (.hp 0 0)), (6, (accV xg0 1 1 (v6002_4.length)))], [(.row [(.int .i64 v6002_1), (sl 2 (List.map e_i64_s v6002_2)), (.int .i64 v6002_3)]), (accB xg0 1 (List.map e_str v6002_4) false)]⟩
noncomputable def L6_0 : Code := at_ Try.f6 [1, 1, 1, 1, 1, 0, 1, 4, 5]
def Q6_23 (x1 : List ByteArray) (x2 : List Int) (v6001_1 : Int) (y : (Sum (Int × (List (Int × ByteArray)) × Int × (List ByteArray)) (Bool))) (x : AX) (st : St) : Prop := match y with
  | .inl y => x = .exit 2 ∧ ∃ xg0 : Bool, (xg0 = false → y.2.2.2 = []) ∧ norm 0 (prg.N 6) (2 * 2 + 1) st = some (X6_23 x1 x2 v6001_1 y.1 y.2.1 y.2.2.1 y.2.2.2 xg0)
  | .inr y => x = .ret ∧ finish TT Try.f6.results.toList 0 true (some (.ret, st)) = some ((.bool y), [])
theorem ok_law16_PartyWaits_l1 (x1 : List ByteArray) (x2 : List Int) (v6001_1 : Int) (y : (Sum (Int × (List (Int × ByteArray)) × Int × (List ByteArray)) (Bool))) : ∀ (k : Nat) (v6011_1 : Int) (v6011_2 : Int) (v6011_3 : List (Int × ByteArray)) (v6011_4 : Int) (v6011_5 : Int) (v6011_6 : List (Int × ByteArray)) (v6011_7 : Int) (v6011_8 : List ByteArray) (g6010_1 : Bool) (hg6010_1 : g6010_1 = false → v6011_8 = []) (st : St), law16_PartyWaits_l1 k x1 x2 v6001_1 v6011_1 v6011_2 v6011_3 v6011_4 v6011_5 v6011_6 v6011_7 v6011_8 = some y → normS 0 NS6_46 st = some (S6_23 x1 x2 v6001_1 v6011_1 v6011_2 v6011_3 v6011_4 v6011_5 v6011_6 v6011_7 v6011_8 g6010_1) → Rn TT prg 6 0 [.loop L6_1] st (Q6_23 x1 x2 v6001_1 y)
  | 0, v6011_1, v6011_2, v6011_3, v6011_4, v6011_5, v6011_6, v6011_7, v6011_8, g6010_1, hg6010_1, st, h, hst => by cases h
  | k + 1, v6011_1, v6011_2, v6011_3, v6011_4, v6011_5, v6011_6, v6011_7, v6011_8, g6010_1, hg6010_1, st0, h, hst0 => by
    rw [law16_PartyWaits_l1] at h
    refine Rn.loop ?_
    cases g6010_1 with
    | true =>
      by_cases c1 : ltI v6011_1 v6011_4 = true
      · rw [if_pos c1] at h
        by_cases c2 : inI v6011_1 v6011_3.length = true
        · rw [if_pos c2] at h
          obtain ⟨v6010_1, g3, h⟩ := Option.bind_eq_some_iff.1 h
          by_cases c4 : ltI (iadd .i64 v6011_2 v6011_1) (nI v6011_8.length) = true
          · rw [if_pos c4] at h
            by_cases c5 : inI (iadd .i64 v6011_2 v6011_1) v6011_8.length = true
            · rw [if_pos c5] at h
              obtain ⟨v6010_2, g6, h⟩ := Option.bind_eq_some_iff.1 h
              by_cases c7 : eqS v6010_1.2 v6010_2 = true
              · rw [if_pos c7] at h
                have e8 : execL TT (acall TT prg (0)) (prg.C 6) (norm 0 (prg.N 6)) (0) (spine L6_1) st0 = execL TT (acall TT prg (0)) (prg.C 6) (norm 0 (prg.N 6)) (0) (spine L6_1) st0 := rfl
                conv at e8 =>
                  rhs
                  simp [Try.f6, N6, S6_23, L6_1, X6_8, X6_23, NS6_5, NS6_1, hst0, c1, c2, g3, c4, c5, g6, c7]
                obtain ⟨st9, hst9, e8⟩ := name_it e8
                refine Rn.fin e8 ?_
                exact ok_law16_PartyWaits_l1 x1 x2 v6001_1 y k (iadd .i64 v6011_1 1) v6011_2 v6011_3 v6011_4 v6011_5 v6011_6 v6011_7 v6011_8 true (by intro h; cases h) st9 h (by simp [hst9, S6_23, NS6_46])
              · rw [if_neg c7] at h
                replace c7 := eq_false_of_ne_true c7
                have e10 : execL TT (acall TT prg (0)) (prg.C 6) (norm 0 (prg.N 6)) (0) (spine L6_1) st0 = execL TT (acall TT prg (0)) (prg.C 6) (norm 0 (prg.N 6)) (0) (spine L6_1) st0 := rfl
                conv at e10 =>
                  rhs
                  simp [Try.f6, N6, S6_23, L6_1, X6_8, X6_23, NS6_5, NS6_1, hst0, c1, c2, g3, c4, c5, g6, c7]
                obtain ⟨st11, hst11, e10⟩ := name_it e10
                refine Rn.fin e10 ?_
                obtain rfl := Option.some.inj h
                exact ⟨rfl, by simp [Try.f6, c1, c2, g3, c4, c5, g6, c7, hst11]⟩
            · rw [if_neg c5] at h
              replace c5 := eq_false_of_ne_true c5
              cases h
          · rw [if_neg c4] at h
            replace c4 := eq_false_of_ne_true c4
            have e12 : execL TT (acall TT prg (0)) (prg.C 6) (norm 0 (prg.N 6)) (0) (spine L6_1) st0 = execL TT (acall TT prg (0)) (prg.C 6) (norm 0 (prg.N 6)) (0) (spine L6_1) st0 := rfl
            conv at e12 =>
              rhs
              simp [Try.f6, N6, S6_23, L6_1, X6_8, X6_23, NS6_5, NS6_1, hst0, c1, c2, g3, c4]
            obtain ⟨st13, hst13, e12⟩ := name_it e12
            refine Rn.fin e12 ?_
            obtain rfl := Option.some.inj h
            exact ⟨rfl, by simp [Try.f6, c1, c2, g3, c4, hst13]⟩
        · rw [if_neg c2] at h
          replace c2 := eq_false_of_ne_true c2
          cases h
      · rw [if_neg c1] at h
        replace c1 := eq_false_of_ne_true c1
        have e14 : execL TT (acall TT prg (0)) (prg.C 6) (norm 0 (prg.N 6)) (0) (spine L6_1) st0 = execL TT (acall TT prg (0)) (prg.C 6) (norm 0 (prg.N 6)) (0) (spine L6_1) st0 := rfl
        conv at e14 =>
          rhs
          simp [Try.f6, N6, S6_23, L6_1, X6_8, X6_23, NS6_5, NS6_1, hst0, c1]
        obtain ⟨st15, hst15, e14⟩ := name_it e14
        refine Rn.fin e14 ?_
        obtain rfl := Option.some.inj h
        exact ⟨rfl, true, (by intro h; cases h), by simp [hst15, N6, norm_some, X6_23, NS6_5]⟩
    | false =>
      have hl31 := hg6010_1 rfl
      subst hl31
      try simp only [List.length_nil, List.nil_append] at h
      by_cases c16 : ltI v6011_1 v6011_4 = true
      · rw [if_pos c16] at h
        by_cases c17 : inI v6011_1 v6011_3.length = true
        · rw [if_pos c17] at h
          obtain ⟨v6010_1, g18, h⟩ := Option.bind_eq_some_iff.1 h
          by_cases c19 : ltI (iadd .i64 v6011_2 v6011_1) (nI 0) = true
          · rw [if_pos c19] at h
            by_cases c20 : inI (iadd .i64 v6011_2 v6011_1) 0 = true
            · exact inI_no c20
            · rw [if_neg c20] at h
              replace c20 := eq_false_of_ne_true c20
              cases h
          · rw [if_neg c19] at h
            replace c19 := eq_false_of_ne_true c19
            have e27 : execL TT (acall TT prg (0)) (prg.C 6) (norm 0 (prg.N 6)) (0) (spine L6_1) st0 = execL TT (acall TT prg (0)) (prg.C 6) (norm 0 (prg.N 6)) (0) (spine L6_1) st0 := rfl
            conv at e27 =>
              rhs
              simp [Try.f6, N6, S6_23, L6_1, X6_8, X6_23, NS6_5, NS6_1, hst0, c16, c17, g18, c19]
            obtain ⟨st28, hst28, e27⟩ := name_it e27
            refine Rn.fin e27 ?_
            obtain rfl := Option.some.inj h
            exact ⟨rfl, by simp [Try.f6, c16, c17, g18, c19, hst28]⟩
        · rw [if_neg c17] at h
          replace c17 := eq_false_of_ne_true c17
          cases h
      · rw [if_neg c16] at h
        replace c16 := eq_false_of_ne_true c16
        have e29 : execL TT (acall TT prg (0)) (prg.C 6) (norm 0 (prg.N 6)) (0) (spine L6_1) st0 = execL TT (acall TT prg (0)) (prg.C 6) (norm 0 (prg.N 6)) (0) (spine L6_1) st0 := rfl
        conv at e29 =>
          rhs
          simp [Try.f6, N6, S6_23, L6_1, X6_8, X6_23, NS6_5, NS6_1, hst0, c16]
        obtain ⟨st30, hst30, e29⟩ := name_it e29
        refine Rn.fin e29 ?_
        obtain rfl := Option.some.inj h
        exact ⟨rfl, false, (fun _ => rfl), by simp [hst30, N6, norm_some, X6_23, NS6_5]⟩
def Q6_8 (x1 : List ByteArray) (x2 : List Int) (y : (Sum (Int × (List (Int × ByteArray)) × Int × (List ByteArray)) (Bool))) (x : AX) (st : St) : Prop := match y with
  | .inl y => x = .exit 0 ∧ ∃ xg0 : Bool, (xg0 = false → y.2.2.2 = []) ∧ norm 0 (prg.N 6) (2 * 0 + 1) st = some (X6_8 y.1 y.2.1 y.2.2.1 y.2.2.2 xg0)
  | .inr y => x = .ret ∧ finish TT Try.f6.results.toList 0 true (some (.ret, st)) = some ((.bool y), [])
theorem ok_law16_PartyWaits_l0 (x1 : List ByteArray) (x2 : List Int) (y : (Sum (Int × (List (Int × ByteArray)) × Int × (List ByteArray)) (Bool))) : ∀ (k : Nat) (v6001_1 : Int) (v6001_2 : Int) (v6001_3 : List (Int × ByteArray)) (v6001_4 : Int) (v6001_5 : List ByteArray) (g6000_1 : Bool) (hg6000_1 : g6000_1 = false → v6001_5 = []) (st : St), law16_PartyWaits_l0 k x1 x2 v6001_1 v6001_2 v6001_3 v6001_4 v6001_5 = some y → normS 0 NS6_16 st = some (S6_8 x1 x2 v6001_1 v6001_2 v6001_3 v6001_4 v6001_5 g6000_1) → Rn TT prg 6 0 [.loop L6_0] st (Q6_8 x1 x2 y)
  | 0, v6001_1, v6001_2, v6001_3, v6001_4, v6001_5, g6000_1, hg6000_1, st, h, hst => by cases h
  | k + 1, v6001_1, v6001_2, v6001_3, v6001_4, v6001_5, g6000_1, hg6000_1, st0, h, hst0 => by
    rw [law16_PartyWaits_l0] at h
    refine Rn.loop ?_
    cases g6000_1 with
    | true =>
      by_cases c1 : ltI v6001_1 (nI x1.length) = true
      · rw [if_pos c1] at h
        have e2 : execL TT (acall TT prg (0)) (prg.C 6) (norm 0 (prg.N 6)) (0) (List.take 2 (spine L6_0)) st0 = execL TT (acall TT prg (0)) (prg.C 6) (norm 0 (prg.N 6)) (0) (List.take 2 (spine L6_0)) st0 := rfl
        conv at e2 =>
          rhs
          simp [Try.f6, N6, S6_8, L6_0, X6_8, X6_23, NS6_5, NS6_1, hst0, c1]
        obtain ⟨st3, hst3, e2⟩ := name_it e2
        refine Rn.seg 2 e2 ?_
        rw [show (List.drop 2 (spine L6_0)) = .block 1 (at_ Try.f6 [1, 1, 1, 1, 1, 0, 1, 4, 5, 1, 1, 0, 4]) :: List.drop 1 (List.drop 2 (spine L6_0)) by kernel_rfl]
        refine Rn.block ?_
        by_cases c4 : inI v6001_1 x1.length = true
        · rw [if_pos c4] at h
          obtain ⟨v6000_1, g5, h⟩ := Option.bind_eq_some_iff.1 h
          by_cases c6 : ltI 600 (ssz v6000_1) = true
          · rw [if_pos c6] at h
            have e7 : execL TT (acall TT prg (0)) (prg.C 6) (norm 0 (prg.N 6)) (0) (List.take 3 (spine (at_ Try.f6 [1, 1, 1, 1, 1, 0, 1, 4, 5, 1, 1, 0, 4]))) st3 = execL TT (acall TT prg (0)) (prg.C 6) (norm 0 (prg.N 6)) (0) (List.take 3 (spine (at_ Try.f6 [1, 1, 1, 1, 1, 0, 1, 4, 5, 1, 1, 0, 4]))) st3 := rfl
            conv at e7 =>
              rhs
              simp [Try.f6, N6, S6_8, L6_0, X6_8, X6_23, NS6_5, NS6_1, c1, hst3, c4, g5, c6]
            obtain ⟨st8, hst8, e7⟩ := name_it e7
            refine Rn.stop 3 e7 (by simp) ?_
            refine BlkQ.exit (norm_none _ (by simp [N6])) ?_
            have e9 : execL TT (acall TT prg (0)) (prg.C 6) (norm 0 (prg.N 6)) (0) (List.drop 1 (List.drop 2 (spine L6_0))) st8 = execL TT (acall TT prg (0)) (prg.C 6) (norm 0 (prg.N 6)) (0) (List.drop 1 (List.drop 2 (spine L6_0))) st8 := rfl
            conv at e9 =>
              rhs
              simp [Try.f6, N6, S6_8, L6_0, X6_8, X6_23, NS6_5, NS6_1, c1, c4, g5, c6, hst8]
            obtain ⟨st10, hst10, e9⟩ := name_it e9
            refine Rn.fin e9 ?_
            exact ok_law16_PartyWaits_l0 x1 x2 y k (iadd .i64 v6001_1 1) v6001_2 v6001_3 v6001_4 v6001_5 true (by intro h; cases h) st10 h (by simp [hst10, S6_8, NS6_16])
          · rw [if_neg c6] at h
            replace c6 := eq_false_of_ne_true c6
            obtain ⟨v6000_2, e11, h⟩ := Option.bind_eq_some_iff.1 h
            obtain ⟨k12, e13⟩ := ok_party_Say k v6001_2 v6001_3 v6001_4 v6000_1 _ e11
            by_cases c14 : eqI v6000_2.2.2.2.2.2 0 = true
            · rw [if_pos c14] at h
              by_cases c15 : roomI ((v6001_5.length + 1) * 16) = true
              · rw [if_pos c15] at h
                by_cases c16 : ltI v6001_1 (nI x2.length) = true
                · rw [if_pos c16] at h
                  by_cases c17 : inI v6001_1 x2.length = true
                  · rw [if_pos c17] at h
                    obtain ⟨v6000_3, g18, h⟩ := Option.bind_eq_some_iff.1 h
                    by_cases c19 : eqI (iadd .i64 v6000_2.1 1) 0 = true
                    · rw [if_pos c19] at h
                      cases h
                    · rw [if_neg c19] at h
                      replace c19 := eq_false_of_ne_true c19
                      have c20 := eqI_ne c19
                      obtain ⟨v6000_4, e21, h⟩ := Option.bind_eq_some_iff.1 h
                      obtain ⟨k22, e23⟩ := ok_party_Acked k v6000_2.1 v6000_2.2.1 v6000_2.2.2.1 (irem .i64 (conv .i64 v6000_3) (iadd .i64 v6000_2.1 1)) _ e21
                      by_cases c24 : eqI v6000_4.2.2.2 0 = true
                      · rw [if_pos c24] at h
                        by_cases c25 : ltI (nI v6000_2.2.1.length) (nI v6000_4.2.1.length) = true
                        · rw [if_pos c25] at h
                          replace e13 := acall_mono TT prg (show k12 ≤ (60 + k12 + k22) by omega) e13
                          try simp only [List.map_append, List.map_cons, List.map_nil, List.length_nil, sl_nil, accV_t, accV_f, accH_t, accH_f, e_u8, e_str, e_i64_s] at e13
                          replace e23 := acall_mono TT prg (show k22 ≤ (60 + k12 + k22) by omega) e23
                          try simp only [List.map_append, List.map_cons, List.map_nil, List.length_nil, sl_nil, accV_t, accV_f, accH_t, accH_f, e_u8, e_str, e_i64_s] at e23
                          have e26 : execL TT (acall TT prg (60 + k12 + k22)) (prg.C 6) (norm 0 (prg.N 6)) (60 + k12 + k22) (List.take 9 (spine (at_ Try.f6 [1, 1, 1, 1, 1, 0, 1, 4, 5, 1, 1, 0, 4]))) st3 = execL TT (acall TT prg (60 + k12 + k22)) (prg.C 6) (norm 0 (prg.N 6)) (60 + k12 + k22) (List.take 9 (spine (at_ Try.f6 [1, 1, 1, 1, 1, 0, 1, 4, 5, 1, 1, 0, 4]))) st3 := rfl
                          conv at e26 =>
                            rhs
                            simp [Try.f6, N6, C6_15, C6_16, S6_8, L6_0, X6_8, X6_23, NS6_5, NS6_1, c1, hst3, c4, g5, c6, c14, c15, c16, c17, g18, c19, c20, c24, c25, e13, e23]
                          obtain ⟨st27, hst27, e26⟩ := name_it e26
                          refine Rn.stop 9 e26 (by simp) ?_
                          refine BlkQ.ret ?_
                          obtain rfl := Option.some.inj h
                          exact ⟨rfl, by simp [Try.f6, c1, c4, g5, c6, c14, c15, c16, c17, g18, c19, c20, c24, c25, hst27]⟩
                        · rw [if_neg c25] at h
                          replace c25 := eq_false_of_ne_true c25
                          by_cases c28 : ltI (isub .i64 v6000_2.1 (irem .i64 (conv .i64 v6000_3) (iadd .i64 v6000_2.1 1))) (nI v6000_4.2.1.length) = true
                          · rw [if_pos c28] at h
                            replace e13 := acall_mono TT prg (show k12 ≤ (60 + k12 + k22) by omega) e13
                            try simp only [List.map_append, List.map_cons, List.map_nil, List.length_nil, sl_nil, accV_t, accV_f, accH_t, accH_f, e_u8, e_str, e_i64_s] at e13
                            replace e23 := acall_mono TT prg (show k22 ≤ (60 + k12 + k22) by omega) e23
                            try simp only [List.map_append, List.map_cons, List.map_nil, List.length_nil, sl_nil, accV_t, accV_f, accH_t, accH_f, e_u8, e_str, e_i64_s] at e23
                            have e29 : execL TT (acall TT prg (60 + k12 + k22)) (prg.C 6) (norm 0 (prg.N 6)) (60 + k12 + k22) (List.take 9 (spine (at_ Try.f6 [1, 1, 1, 1, 1, 0, 1, 4, 5, 1, 1, 0, 4]))) st3 = execL TT (acall TT prg (60 + k12 + k22)) (prg.C 6) (norm 0 (prg.N 6)) (60 + k12 + k22) (List.take 9 (spine (at_ Try.f6 [1, 1, 1, 1, 1, 0, 1, 4, 5, 1, 1, 0, 4]))) st3 := rfl
                            conv at e29 =>
                              rhs
                              simp [Try.f6, N6, C6_15, C6_16, S6_8, L6_0, X6_8, X6_23, NS6_5, NS6_1, c1, hst3, c4, g5, c6, c14, c15, c16, c17, g18, c19, c20, c24, c25, c28, e13, e23]
                            obtain ⟨st30, hst30, e29⟩ := name_it e29
                            refine Rn.stop 9 e29 (by simp) ?_
                            refine BlkQ.ret ?_
                            obtain rfl := Option.some.inj h
                            exact ⟨rfl, by simp [Try.f6, c1, c4, g5, c6, c14, c15, c16, c17, g18, c19, c20, c24, c25, c28, hst30]⟩
                          · rw [if_neg c28] at h
                            replace c28 := eq_false_of_ne_true c28
                            replace e13 := acall_mono TT prg (show k12 ≤ (60 + k12 + k22) by omega) e13
                            try simp only [List.map_append, List.map_cons, List.map_nil, List.length_nil, sl_nil, accV_t, accV_f, accH_t, accH_f, e_u8, e_str, e_i64_s] at e13
                            replace e23 := acall_mono TT prg (show k22 ≤ (60 + k12 + k22) by omega) e23
                            try simp only [List.map_append, List.map_cons, List.map_nil, List.length_nil, sl_nil, accV_t, accV_f, accH_t, accH_f, e_u8, e_str, e_i64_s] at e23
                            have e31 : execL TT (acall TT prg (60 + k12 + k22)) (prg.C 6) (norm 0 (prg.N 6)) (60 + k12 + k22) (List.take 11 (spine (at_ Try.f6 [1, 1, 1, 1, 1, 0, 1, 4, 5, 1, 1, 0, 4]))) st3 = execL TT (acall TT prg (60 + k12 + k22)) (prg.C 6) (norm 0 (prg.N 6)) (60 + k12 + k22) (List.take 11 (spine (at_ Try.f6 [1, 1, 1, 1, 1, 0, 1, 4, 5, 1, 1, 0, 4]))) st3 := rfl
                            conv at e31 =>
                              rhs
                              simp [Try.f6, N6, C6_15, C6_16, S6_8, L6_0, X6_8, X6_23, NS6_5, NS6_1, c1, hst3, c4, g5, c6, c14, c15, c16, c17, g18, c19, c20, c24, c25, c28, e13, e23]
                            obtain ⟨st32, hst32, e31⟩ := name_it e31
                            refine Rn.seg 11 e31 ?_
                            rw [show (List.drop 11 (spine (at_ Try.f6 [1, 1, 1, 1, 1, 0, 1, 4, 5, 1, 1, 0, 4]))) = .block 2 (.loop L6_1) :: (List.drop 1 (List.drop 11 (spine (at_ Try.f6 [1, 1, 1, 1, 1, 0, 1, 4, 5, 1, 1, 0, 4])))) by kernel_rfl]
                            refine Rn.block ?_
                            obtain ⟨v6000_5, e33, h⟩ := Option.bind_eq_some_iff.1 h
                            refine Rn.mono (ok_law16_PartyWaits_l1 x1 x2 v6001_1 v6000_5 k 0 (isub .i64 v6000_4.1 (nI v6000_4.2.1.length)) v6000_4.2.1 (nI v6000_4.2.1.length) v6000_4.1 v6000_4.2.1 v6000_4.2.2.1 (v6001_5 ++ [v6000_1]) true (by intro h; cases h) st32 e33 (by simp [hst32, S6_23, NS6_46])) ?_
                            intro x_36 st35 q34
                            rcases v6000_5 with v6000_6 | v6000_6
                            · simp only [Sum.elim_inl, Sum.elim_inr] at h
                              obtain ⟨rfl, gv6000_6_1, hgv6000_6_1, q34⟩ := q34
                              obtain ⟨st37, hst37, q34⟩ := name_it1 q34
                              refine BlkQ.exit q34 ?_
                              cases gv6000_6_1 with
                              | true =>
                                have e38 : execL TT (acall TT prg (0)) (prg.C 6) (norm 0 (prg.N 6)) (0) (List.drop 1 (List.drop 11 (spine (at_ Try.f6 [1, 1, 1, 1, 1, 0, 1, 4, 5, 1, 1, 0, 4])))) st37 = execL TT (acall TT prg (0)) (prg.C 6) (norm 0 (prg.N 6)) (0) (List.drop 1 (List.drop 11 (spine (at_ Try.f6 [1, 1, 1, 1, 1, 0, 1, 4, 5, 1, 1, 0, 4])))) st37 := rfl
                                conv at e38 =>
                                  rhs
                                  simp [Try.f6, N6, C6_15, C6_16, S6_8, L6_0, X6_8, X6_23, NS6_5, NS6_1, c1, c4, g5, c6, c14, c15, c16, c17, g18, c19, c20, c24, c25, c28, hst37]
                                obtain ⟨st39, hst39, e38⟩ := name_it e38
                                refine Rn.fin e38 ?_
                                refine BlkQ.normal ?_
                                have e40 : execL TT (acall TT prg (0)) (prg.C 6) (norm 0 (prg.N 6)) (0) (List.drop 1 (List.drop 2 (spine L6_0))) st39 = execL TT (acall TT prg (0)) (prg.C 6) (norm 0 (prg.N 6)) (0) (List.drop 1 (List.drop 2 (spine L6_0))) st39 := rfl
                                conv at e40 =>
                                  rhs
                                  simp [Try.f6, N6, C6_15, C6_16, S6_8, L6_0, X6_8, X6_23, NS6_5, NS6_1, c1, c4, g5, c6, c14, c15, c16, c17, g18, c19, c20, c24, c25, c28, hst39]
                                obtain ⟨st41, hst41, e40⟩ := name_it e40
                                refine Rn.fin e40 ?_
                                exact ok_law16_PartyWaits_l0 x1 x2 y k (iadd .i64 v6001_1 1) v6000_6.1 v6000_6.2.1 v6000_6.2.2.1 v6000_6.2.2.2 true (by intro h; cases h) st41 h (by simp [hst41, S6_8, NS6_16])
                              | false =>
                                have hl46 := hgv6000_6_1 rfl
                                simp only [hl46, List.length_nil, List.nil_append] at *
                                have e42 : execL TT (acall TT prg (0)) (prg.C 6) (norm 0 (prg.N 6)) (0) (List.drop 1 (List.drop 11 (spine (at_ Try.f6 [1, 1, 1, 1, 1, 0, 1, 4, 5, 1, 1, 0, 4])))) st37 = execL TT (acall TT prg (0)) (prg.C 6) (norm 0 (prg.N 6)) (0) (List.drop 1 (List.drop 11 (spine (at_ Try.f6 [1, 1, 1, 1, 1, 0, 1, 4, 5, 1, 1, 0, 4])))) st37 := rfl
                                conv at e42 =>
                                  rhs
                                  simp [Try.f6, N6, C6_15, C6_16, S6_8, L6_0, X6_8, X6_23, NS6_5, NS6_1, c1, c4, g5, c6, c14, c15, c16, c17, g18, c19, c20, c24, c25, c28, hst37]
                                obtain ⟨st43, hst43, e42⟩ := name_it e42
                                refine Rn.fin e42 ?_
                                refine BlkQ.normal ?_
                                have e44 : execL TT (acall TT prg (0)) (prg.C 6) (norm 0 (prg.N 6)) (0) (List.drop 1 (List.drop 2 (spine L6_0))) st43 = execL TT (acall TT prg (0)) (prg.C 6) (norm 0 (prg.N 6)) (0) (List.drop 1 (List.drop 2 (spine L6_0))) st43 := rfl
                                conv at e44 =>
                                  rhs
                                  simp [Try.f6, N6, C6_15, C6_16, S6_8, L6_0, X6_8, X6_23, NS6_5, NS6_1, c1, c4, g5, c6, c14, c15, c16, c17, g18, c19, c20, c24, c25, c28, hst43]
                                obtain ⟨st45, hst45, e44⟩ := name_it e44
                                refine Rn.fin e44 ?_
                                exact ok_law16_PartyWaits_l0 x1 x2 y k (iadd .i64 v6001_1 1) v6000_6.1 v6000_6.2.1 v6000_6.2.2.1 ([] : List ByteArray) false (fun _ => rfl) st45 h (by simp [hst45, S6_8, NS6_16])
                            · simp only [Sum.elim_inl, Sum.elim_inr] at h
                              obtain ⟨rfl, q34⟩ := q34
                              refine BlkQ.ret ?_
                              refine BlkQ.ret ?_
                              obtain rfl := Option.some.inj h
                              exact ⟨rfl, q34⟩
                      · rw [if_neg c24] at h
                        replace c24 := eq_false_of_ne_true c24
                        have c47 := eqI_ne c24
                        replace e13 := acall_mono TT prg (show k12 ≤ (60 + k12 + k22) by omega) e13
                        try simp only [List.map_append, List.map_cons, List.map_nil, List.length_nil, sl_nil, accV_t, accV_f, accH_t, accH_f, e_u8, e_str, e_i64_s] at e13
                        replace e23 := acall_mono TT prg (show k22 ≤ (60 + k12 + k22) by omega) e23
                        try simp only [List.map_append, List.map_cons, List.map_nil, List.length_nil, sl_nil, accV_t, accV_f, accH_t, accH_f, e_u8, e_str, e_i64_s] at e23
                        have e48 : execL TT (acall TT prg (60 + k12 + k22)) (prg.C 6) (norm 0 (prg.N 6)) (60 + k12 + k22) (List.take 9 (spine (at_ Try.f6 [1, 1, 1, 1, 1, 0, 1, 4, 5, 1, 1, 0, 4]))) st3 = execL TT (acall TT prg (60 + k12 + k22)) (prg.C 6) (norm 0 (prg.N 6)) (60 + k12 + k22) (List.take 9 (spine (at_ Try.f6 [1, 1, 1, 1, 1, 0, 1, 4, 5, 1, 1, 0, 4]))) st3 := rfl
                        conv at e48 =>
                          rhs
                          simp [Try.f6, N6, C6_15, C6_16, S6_8, L6_0, X6_8, X6_23, NS6_5, NS6_1, c1, hst3, c4, g5, c6, c14, c15, c16, c17, g18, c19, c20, c24, c47, e13, e23]
                        obtain ⟨st49, hst49, e48⟩ := name_it e48
                        refine Rn.stop 9 e48 (by simp) ?_
                        refine BlkQ.ret ?_
                        obtain rfl := Option.some.inj h
                        exact ⟨rfl, by simp [Try.f6, c1, c4, g5, c6, c14, c15, c16, c17, g18, c19, c20, c24, c47, hst49]⟩
                  · rw [if_neg c17] at h
                    replace c17 := eq_false_of_ne_true c17
                    cases h
                · rw [if_neg c16] at h
                  replace c16 := eq_false_of_ne_true c16
                  replace e13 := acall_mono TT prg (show k12 ≤ (60 + k12) by omega) e13
                  try simp only [List.map_append, List.map_cons, List.map_nil, List.length_nil, sl_nil, accV_t, accV_f, accH_t, accH_f, e_u8, e_str, e_i64_s] at e13
                  have e50 : execL TT (acall TT prg (60 + k12)) (prg.C 6) (norm 0 (prg.N 6)) (60 + k12) (List.take 11 (spine (at_ Try.f6 [1, 1, 1, 1, 1, 0, 1, 4, 5, 1, 1, 0, 4]))) st3 = execL TT (acall TT prg (60 + k12)) (prg.C 6) (norm 0 (prg.N 6)) (60 + k12) (List.take 11 (spine (at_ Try.f6 [1, 1, 1, 1, 1, 0, 1, 4, 5, 1, 1, 0, 4]))) st3 := rfl
                  conv at e50 =>
                    rhs
                    simp [Try.f6, N6, C6_15, C6_16, S6_8, L6_0, X6_8, X6_23, NS6_5, NS6_1, c1, hst3, c4, g5, c6, c14, c15, c16, e13]
                  obtain ⟨st51, hst51, e50⟩ := name_it e50
                  refine Rn.seg 11 e50 ?_
                  rw [show (List.drop 11 (spine (at_ Try.f6 [1, 1, 1, 1, 1, 0, 1, 4, 5, 1, 1, 0, 4]))) = .block 2 (.loop L6_1) :: (List.drop 1 (List.drop 11 (spine (at_ Try.f6 [1, 1, 1, 1, 1, 0, 1, 4, 5, 1, 1, 0, 4])))) by kernel_rfl]
                  refine Rn.block ?_
                  obtain ⟨v6000_3, e52, h⟩ := Option.bind_eq_some_iff.1 h
                  refine Rn.mono (ok_law16_PartyWaits_l1 x1 x2 v6001_1 v6000_3 k 0 (isub .i64 v6000_2.1 (nI v6000_2.2.1.length)) v6000_2.2.1 (nI v6000_2.2.1.length) v6000_2.1 v6000_2.2.1 v6000_2.2.2.1 (v6001_5 ++ [v6000_1]) true (by intro h; cases h) st51 e52 (by simp [hst51, S6_23, NS6_46])) ?_
                  intro x_55 st54 q53
                  rcases v6000_3 with v6000_4 | v6000_4
                  · simp only [Sum.elim_inl, Sum.elim_inr] at h
                    obtain ⟨rfl, gv6000_4_1, hgv6000_4_1, q53⟩ := q53
                    obtain ⟨st56, hst56, q53⟩ := name_it1 q53
                    refine BlkQ.exit q53 ?_
                    cases gv6000_4_1 with
                    | true =>
                      have e57 : execL TT (acall TT prg (0)) (prg.C 6) (norm 0 (prg.N 6)) (0) (List.drop 1 (List.drop 11 (spine (at_ Try.f6 [1, 1, 1, 1, 1, 0, 1, 4, 5, 1, 1, 0, 4])))) st56 = execL TT (acall TT prg (0)) (prg.C 6) (norm 0 (prg.N 6)) (0) (List.drop 1 (List.drop 11 (spine (at_ Try.f6 [1, 1, 1, 1, 1, 0, 1, 4, 5, 1, 1, 0, 4])))) st56 := rfl
                      conv at e57 =>
                        rhs
                        simp [Try.f6, N6, C6_15, C6_16, S6_8, L6_0, X6_8, X6_23, NS6_5, NS6_1, c1, c4, g5, c6, c14, c15, c16, hst56]
                      obtain ⟨st58, hst58, e57⟩ := name_it e57
                      refine Rn.fin e57 ?_
                      refine BlkQ.normal ?_
                      have e59 : execL TT (acall TT prg (0)) (prg.C 6) (norm 0 (prg.N 6)) (0) (List.drop 1 (List.drop 2 (spine L6_0))) st58 = execL TT (acall TT prg (0)) (prg.C 6) (norm 0 (prg.N 6)) (0) (List.drop 1 (List.drop 2 (spine L6_0))) st58 := rfl
                      conv at e59 =>
                        rhs
                        simp [Try.f6, N6, C6_15, C6_16, S6_8, L6_0, X6_8, X6_23, NS6_5, NS6_1, c1, c4, g5, c6, c14, c15, c16, hst58]
                      obtain ⟨st60, hst60, e59⟩ := name_it e59
                      refine Rn.fin e59 ?_
                      exact ok_law16_PartyWaits_l0 x1 x2 y k (iadd .i64 v6001_1 1) v6000_4.1 v6000_4.2.1 v6000_4.2.2.1 v6000_4.2.2.2 true (by intro h; cases h) st60 h (by simp [hst60, S6_8, NS6_16])
                    | false =>
                      have hl65 := hgv6000_4_1 rfl
                      simp only [hl65, List.length_nil, List.nil_append] at *
                      have e61 : execL TT (acall TT prg (0)) (prg.C 6) (norm 0 (prg.N 6)) (0) (List.drop 1 (List.drop 11 (spine (at_ Try.f6 [1, 1, 1, 1, 1, 0, 1, 4, 5, 1, 1, 0, 4])))) st56 = execL TT (acall TT prg (0)) (prg.C 6) (norm 0 (prg.N 6)) (0) (List.drop 1 (List.drop 11 (spine (at_ Try.f6 [1, 1, 1, 1, 1, 0, 1, 4, 5, 1, 1, 0, 4])))) st56 := rfl
                      conv at e61 =>
                        rhs
                        simp [Try.f6, N6, C6_15, C6_16, S6_8, L6_0, X6_8, X6_23, NS6_5, NS6_1, c1, c4, g5, c6, c14, c15, c16, hst56]
                      obtain ⟨st62, hst62, e61⟩ := name_it e61
                      refine Rn.fin e61 ?_
                      refine BlkQ.normal ?_
                      have e63 : execL TT (acall TT prg (0)) (prg.C 6) (norm 0 (prg.N 6)) (0) (List.drop 1 (List.drop 2 (spine L6_0))) st62 = execL TT (acall TT prg (0)) (prg.C 6) (norm 0 (prg.N 6)) (0) (List.drop 1 (List.drop 2 (spine L6_0))) st62 := rfl
                      conv at e63 =>
                        rhs
                        simp [Try.f6, N6, C6_15, C6_16, S6_8, L6_0, X6_8, X6_23, NS6_5, NS6_1, c1, c4, g5, c6, c14, c15, c16, hst62]
                      obtain ⟨st64, hst64, e63⟩ := name_it e63
                      refine Rn.fin e63 ?_
                      exact ok_law16_PartyWaits_l0 x1 x2 y k (iadd .i64 v6001_1 1) v6000_4.1 v6000_4.2.1 v6000_4.2.2.1 ([] : List ByteArray) false (fun _ => rfl) st64 h (by simp [hst64, S6_8, NS6_16])
                  · simp only [Sum.elim_inl, Sum.elim_inr] at h
                    obtain ⟨rfl, q53⟩ := q53
                    refine BlkQ.ret ?_
                    refine BlkQ.ret ?_
                    obtain rfl := Option.some.inj h
                    exact ⟨rfl, q53⟩
              · rw [if_neg c15] at h
                replace c15 := eq_false_of_ne_true c15
                cases h
            · rw [if_neg c14] at h
              replace c14 := eq_false_of_ne_true c14
              have c66 := eqI_ne c14
              by_cases c67 : ltI v6001_1 (nI x2.length) = true
              · rw [if_pos c67] at h
                by_cases c68 : inI v6001_1 x2.length = true
                · rw [if_pos c68] at h
                  obtain ⟨v6000_3, g69, h⟩ := Option.bind_eq_some_iff.1 h
                  by_cases c70 : eqI (iadd .i64 v6000_2.1 1) 0 = true
                  · rw [if_pos c70] at h
                    cases h
                  · rw [if_neg c70] at h
                    replace c70 := eq_false_of_ne_true c70
                    have c71 := eqI_ne c70
                    obtain ⟨v6000_4, e72, h⟩ := Option.bind_eq_some_iff.1 h
                    obtain ⟨k73, e74⟩ := ok_party_Acked k v6000_2.1 v6000_2.2.1 v6000_2.2.2.1 (irem .i64 (conv .i64 v6000_3) (iadd .i64 v6000_2.1 1)) _ e72
                    by_cases c75 : eqI v6000_4.2.2.2 0 = true
                    · rw [if_pos c75] at h
                      by_cases c76 : ltI (nI v6000_2.2.1.length) (nI v6000_4.2.1.length) = true
                      · rw [if_pos c76] at h
                        replace e13 := acall_mono TT prg (show k12 ≤ (60 + k12 + k73) by omega) e13
                        try simp only [List.map_append, List.map_cons, List.map_nil, List.length_nil, sl_nil, accV_t, accV_f, accH_t, accH_f, e_u8, e_str, e_i64_s] at e13
                        replace e74 := acall_mono TT prg (show k73 ≤ (60 + k12 + k73) by omega) e74
                        try simp only [List.map_append, List.map_cons, List.map_nil, List.length_nil, sl_nil, accV_t, accV_f, accH_t, accH_f, e_u8, e_str, e_i64_s] at e74
                        have e77 : execL TT (acall TT prg (60 + k12 + k73)) (prg.C 6) (norm 0 (prg.N 6)) (60 + k12 + k73) (List.take 9 (spine (at_ Try.f6 [1, 1, 1, 1, 1, 0, 1, 4, 5, 1, 1, 0, 4]))) st3 = execL TT (acall TT prg (60 + k12 + k73)) (prg.C 6) (norm 0 (prg.N 6)) (60 + k12 + k73) (List.take 9 (spine (at_ Try.f6 [1, 1, 1, 1, 1, 0, 1, 4, 5, 1, 1, 0, 4]))) st3 := rfl
                        conv at e77 =>
                          rhs
                          simp [Try.f6, N6, C6_15, C6_16, S6_8, L6_0, X6_8, X6_23, NS6_5, NS6_1, c1, hst3, c4, g5, c6, c14, c66, c67, c68, g69, c70, c71, c75, c76, e13, e74]
                        obtain ⟨st78, hst78, e77⟩ := name_it e77
                        refine Rn.stop 9 e77 (by simp) ?_
                        refine BlkQ.ret ?_
                        obtain rfl := Option.some.inj h
                        exact ⟨rfl, by simp [Try.f6, c1, c4, g5, c6, c14, c66, c67, c68, g69, c70, c71, c75, c76, hst78]⟩
                      · rw [if_neg c76] at h
                        replace c76 := eq_false_of_ne_true c76
                        by_cases c79 : ltI (isub .i64 v6000_2.1 (irem .i64 (conv .i64 v6000_3) (iadd .i64 v6000_2.1 1))) (nI v6000_4.2.1.length) = true
                        · rw [if_pos c79] at h
                          replace e13 := acall_mono TT prg (show k12 ≤ (60 + k12 + k73) by omega) e13
                          try simp only [List.map_append, List.map_cons, List.map_nil, List.length_nil, sl_nil, accV_t, accV_f, accH_t, accH_f, e_u8, e_str, e_i64_s] at e13
                          replace e74 := acall_mono TT prg (show k73 ≤ (60 + k12 + k73) by omega) e74
                          try simp only [List.map_append, List.map_cons, List.map_nil, List.length_nil, sl_nil, accV_t, accV_f, accH_t, accH_f, e_u8, e_str, e_i64_s] at e74
                          have e80 : execL TT (acall TT prg (60 + k12 + k73)) (prg.C 6) (norm 0 (prg.N 6)) (60 + k12 + k73) (List.take 9 (spine (at_ Try.f6 [1, 1, 1, 1, 1, 0, 1, 4, 5, 1, 1, 0, 4]))) st3 = execL TT (acall TT prg (60 + k12 + k73)) (prg.C 6) (norm 0 (prg.N 6)) (60 + k12 + k73) (List.take 9 (spine (at_ Try.f6 [1, 1, 1, 1, 1, 0, 1, 4, 5, 1, 1, 0, 4]))) st3 := rfl
                          conv at e80 =>
                            rhs
                            simp [Try.f6, N6, C6_15, C6_16, S6_8, L6_0, X6_8, X6_23, NS6_5, NS6_1, c1, hst3, c4, g5, c6, c14, c66, c67, c68, g69, c70, c71, c75, c76, c79, e13, e74]
                          obtain ⟨st81, hst81, e80⟩ := name_it e80
                          refine Rn.stop 9 e80 (by simp) ?_
                          refine BlkQ.ret ?_
                          obtain rfl := Option.some.inj h
                          exact ⟨rfl, by simp [Try.f6, c1, c4, g5, c6, c14, c66, c67, c68, g69, c70, c71, c75, c76, c79, hst81]⟩
                        · rw [if_neg c79] at h
                          replace c79 := eq_false_of_ne_true c79
                          replace e13 := acall_mono TT prg (show k12 ≤ (60 + k12 + k73) by omega) e13
                          try simp only [List.map_append, List.map_cons, List.map_nil, List.length_nil, sl_nil, accV_t, accV_f, accH_t, accH_f, e_u8, e_str, e_i64_s] at e13
                          replace e74 := acall_mono TT prg (show k73 ≤ (60 + k12 + k73) by omega) e74
                          try simp only [List.map_append, List.map_cons, List.map_nil, List.length_nil, sl_nil, accV_t, accV_f, accH_t, accH_f, e_u8, e_str, e_i64_s] at e74
                          have e82 : execL TT (acall TT prg (60 + k12 + k73)) (prg.C 6) (norm 0 (prg.N 6)) (60 + k12 + k73) (List.take 11 (spine (at_ Try.f6 [1, 1, 1, 1, 1, 0, 1, 4, 5, 1, 1, 0, 4]))) st3 = execL TT (acall TT prg (60 + k12 + k73)) (prg.C 6) (norm 0 (prg.N 6)) (60 + k12 + k73) (List.take 11 (spine (at_ Try.f6 [1, 1, 1, 1, 1, 0, 1, 4, 5, 1, 1, 0, 4]))) st3 := rfl
                          conv at e82 =>
                            rhs
                            simp [Try.f6, N6, C6_15, C6_16, S6_8, L6_0, X6_8, X6_23, NS6_5, NS6_1, c1, hst3, c4, g5, c6, c14, c66, c67, c68, g69, c70, c71, c75, c76, c79, e13, e74]
                          obtain ⟨st83, hst83, e82⟩ := name_it e82
                          refine Rn.seg 11 e82 ?_
                          rw [show (List.drop 11 (spine (at_ Try.f6 [1, 1, 1, 1, 1, 0, 1, 4, 5, 1, 1, 0, 4]))) = .block 2 (.loop L6_1) :: (List.drop 1 (List.drop 11 (spine (at_ Try.f6 [1, 1, 1, 1, 1, 0, 1, 4, 5, 1, 1, 0, 4])))) by kernel_rfl]
                          refine Rn.block ?_
                          obtain ⟨v6000_5, e84, h⟩ := Option.bind_eq_some_iff.1 h
                          refine Rn.mono (ok_law16_PartyWaits_l1 x1 x2 v6001_1 v6000_5 k 0 (isub .i64 v6000_4.1 (nI v6000_4.2.1.length)) v6000_4.2.1 (nI v6000_4.2.1.length) v6000_4.1 v6000_4.2.1 v6000_4.2.2.1 v6001_5 true (by intro h; cases h) st83 e84 (by simp [hst83, S6_23, NS6_46])) ?_
                          intro x_87 st86 q85
                          rcases v6000_5 with v6000_6 | v6000_6
                          · simp only [Sum.elim_inl, Sum.elim_inr] at h
                            obtain ⟨rfl, gv6000_6_1, hgv6000_6_1, q85⟩ := q85
                            obtain ⟨st88, hst88, q85⟩ := name_it1 q85
                            refine BlkQ.exit q85 ?_
                            cases gv6000_6_1 with
                            | true =>
                              have e89 : execL TT (acall TT prg (0)) (prg.C 6) (norm 0 (prg.N 6)) (0) (List.drop 1 (List.drop 11 (spine (at_ Try.f6 [1, 1, 1, 1, 1, 0, 1, 4, 5, 1, 1, 0, 4])))) st88 = execL TT (acall TT prg (0)) (prg.C 6) (norm 0 (prg.N 6)) (0) (List.drop 1 (List.drop 11 (spine (at_ Try.f6 [1, 1, 1, 1, 1, 0, 1, 4, 5, 1, 1, 0, 4])))) st88 := rfl
                              conv at e89 =>
                                rhs
                                simp [Try.f6, N6, C6_15, C6_16, S6_8, L6_0, X6_8, X6_23, NS6_5, NS6_1, c1, c4, g5, c6, c14, c66, c67, c68, g69, c70, c71, c75, c76, c79, hst88]
                              obtain ⟨st90, hst90, e89⟩ := name_it e89
                              refine Rn.fin e89 ?_
                              refine BlkQ.normal ?_
                              have e91 : execL TT (acall TT prg (0)) (prg.C 6) (norm 0 (prg.N 6)) (0) (List.drop 1 (List.drop 2 (spine L6_0))) st90 = execL TT (acall TT prg (0)) (prg.C 6) (norm 0 (prg.N 6)) (0) (List.drop 1 (List.drop 2 (spine L6_0))) st90 := rfl
                              conv at e91 =>
                                rhs
                                simp [Try.f6, N6, C6_15, C6_16, S6_8, L6_0, X6_8, X6_23, NS6_5, NS6_1, c1, c4, g5, c6, c14, c66, c67, c68, g69, c70, c71, c75, c76, c79, hst90]
                              obtain ⟨st92, hst92, e91⟩ := name_it e91
                              refine Rn.fin e91 ?_
                              exact ok_law16_PartyWaits_l0 x1 x2 y k (iadd .i64 v6001_1 1) v6000_6.1 v6000_6.2.1 v6000_6.2.2.1 v6000_6.2.2.2 true (by intro h; cases h) st92 h (by simp [hst92, S6_8, NS6_16])
                            | false =>
                              have hl97 := hgv6000_6_1 rfl
                              simp only [hl97, List.length_nil, List.nil_append] at *
                              have e93 : execL TT (acall TT prg (0)) (prg.C 6) (norm 0 (prg.N 6)) (0) (List.drop 1 (List.drop 11 (spine (at_ Try.f6 [1, 1, 1, 1, 1, 0, 1, 4, 5, 1, 1, 0, 4])))) st88 = execL TT (acall TT prg (0)) (prg.C 6) (norm 0 (prg.N 6)) (0) (List.drop 1 (List.drop 11 (spine (at_ Try.f6 [1, 1, 1, 1, 1, 0, 1, 4, 5, 1, 1, 0, 4])))) st88 := rfl
                              conv at e93 =>
                                rhs
                                simp [Try.f6, N6, C6_15, C6_16, S6_8, L6_0, X6_8, X6_23, NS6_5, NS6_1, c1, c4, g5, c6, c14, c66, c67, c68, g69, c70, c71, c75, c76, c79, hst88]
                              obtain ⟨st94, hst94, e93⟩ := name_it e93
                              refine Rn.fin e93 ?_
                              refine BlkQ.normal ?_
                              have e95 : execL TT (acall TT prg (0)) (prg.C 6) (norm 0 (prg.N 6)) (0) (List.drop 1 (List.drop 2 (spine L6_0))) st94 = execL TT (acall TT prg (0)) (prg.C 6) (norm 0 (prg.N 6)) (0) (List.drop 1 (List.drop 2 (spine L6_0))) st94 := rfl
                              conv at e95 =>
                                rhs
                                simp [Try.f6, N6, C6_15, C6_16, S6_8, L6_0, X6_8, X6_23, NS6_5, NS6_1, c1, c4, g5, c6, c14, c66, c67, c68, g69, c70, c71, c75, c76, c79, hst94]
                              obtain ⟨st96, hst96, e95⟩ := name_it e95
                              refine Rn.fin e95 ?_
                              exact ok_law16_PartyWaits_l0 x1 x2 y k (iadd .i64 v6001_1 1) v6000_6.1 v6000_6.2.1 v6000_6.2.2.1 ([] : List ByteArray) false (fun _ => rfl) st96 h (by simp [hst96, S6_8, NS6_16])
                          · simp only [Sum.elim_inl, Sum.elim_inr] at h
                            obtain ⟨rfl, q85⟩ := q85
                            refine BlkQ.ret ?_
                            refine BlkQ.ret ?_
                            obtain rfl := Option.some.inj h
                            exact ⟨rfl, q85⟩
                    · rw [if_neg c75] at h
                      replace c75 := eq_false_of_ne_true c75
                      have c98 := eqI_ne c75
                      replace e13 := acall_mono TT prg (show k12 ≤ (60 + k12 + k73) by omega) e13
                      try simp only [List.map_append, List.map_cons, List.map_nil, List.length_nil, sl_nil, accV_t, accV_f, accH_t, accH_f, e_u8, e_str, e_i64_s] at e13
                      replace e74 := acall_mono TT prg (show k73 ≤ (60 + k12 + k73) by omega) e74
                      try simp only [List.map_append, List.map_cons, List.map_nil, List.length_nil, sl_nil, accV_t, accV_f, accH_t, accH_f, e_u8, e_str, e_i64_s] at e74
                      have e99 : execL TT (acall TT prg (60 + k12 + k73)) (prg.C 6) (norm 0 (prg.N 6)) (60 + k12 + k73) (List.take 9 (spine (at_ Try.f6 [1, 1, 1, 1, 1, 0, 1, 4, 5, 1, 1, 0, 4]))) st3 = execL TT (acall TT prg (60 + k12 + k73)) (prg.C 6) (norm 0 (prg.N 6)) (60 + k12 + k73) (List.take 9 (spine (at_ Try.f6 [1, 1, 1, 1, 1, 0, 1, 4, 5, 1, 1, 0, 4]))) st3 := rfl
                      conv at e99 =>
                        rhs
                        simp [Try.f6, N6, C6_15, C6_16, S6_8, L6_0, X6_8, X6_23, NS6_5, NS6_1, c1, hst3, c4, g5, c6, c14, c66, c67, c68, g69, c70, c71, c75, c98, e13, e74]
                      obtain ⟨st100, hst100, e99⟩ := name_it e99
                      refine Rn.stop 9 e99 (by simp) ?_
                      refine BlkQ.ret ?_
                      obtain rfl := Option.some.inj h
                      exact ⟨rfl, by simp [Try.f6, c1, c4, g5, c6, c14, c66, c67, c68, g69, c70, c71, c75, c98, hst100]⟩
                · rw [if_neg c68] at h
                  replace c68 := eq_false_of_ne_true c68
                  cases h
              · rw [if_neg c67] at h
                replace c67 := eq_false_of_ne_true c67
                replace e13 := acall_mono TT prg (show k12 ≤ (60 + k12) by omega) e13
                try simp only [List.map_append, List.map_cons, List.map_nil, List.length_nil, sl_nil, accV_t, accV_f, accH_t, accH_f, e_u8, e_str, e_i64_s] at e13
                have e101 : execL TT (acall TT prg (60 + k12)) (prg.C 6) (norm 0 (prg.N 6)) (60 + k12) (List.take 11 (spine (at_ Try.f6 [1, 1, 1, 1, 1, 0, 1, 4, 5, 1, 1, 0, 4]))) st3 = execL TT (acall TT prg (60 + k12)) (prg.C 6) (norm 0 (prg.N 6)) (60 + k12) (List.take 11 (spine (at_ Try.f6 [1, 1, 1, 1, 1, 0, 1, 4, 5, 1, 1, 0, 4]))) st3 := rfl
                conv at e101 =>
                  rhs
                  simp [Try.f6, N6, C6_15, C6_16, S6_8, L6_0, X6_8, X6_23, NS6_5, NS6_1, c1, hst3, c4, g5, c6, c14, c66, c67, e13]
                obtain ⟨st102, hst102, e101⟩ := name_it e101
                refine Rn.seg 11 e101 ?_
                rw [show (List.drop 11 (spine (at_ Try.f6 [1, 1, 1, 1, 1, 0, 1, 4, 5, 1, 1, 0, 4]))) = .block 2 (.loop L6_1) :: (List.drop 1 (List.drop 11 (spine (at_ Try.f6 [1, 1, 1, 1, 1, 0, 1, 4, 5, 1, 1, 0, 4])))) by kernel_rfl]
                refine Rn.block ?_
                obtain ⟨v6000_3, e103, h⟩ := Option.bind_eq_some_iff.1 h
                refine Rn.mono (ok_law16_PartyWaits_l1 x1 x2 v6001_1 v6000_3 k 0 (isub .i64 v6000_2.1 (nI v6000_2.2.1.length)) v6000_2.2.1 (nI v6000_2.2.1.length) v6000_2.1 v6000_2.2.1 v6000_2.2.2.1 v6001_5 true (by intro h; cases h) st102 e103 (by simp [hst102, S6_23, NS6_46])) ?_
                intro x_106 st105 q104
                rcases v6000_3 with v6000_4 | v6000_4
                · simp only [Sum.elim_inl, Sum.elim_inr] at h
                  obtain ⟨rfl, gv6000_4_1, hgv6000_4_1, q104⟩ := q104
                  obtain ⟨st107, hst107, q104⟩ := name_it1 q104
                  refine BlkQ.exit q104 ?_
                  cases gv6000_4_1 with
                  | true =>
                    have e108 : execL TT (acall TT prg (0)) (prg.C 6) (norm 0 (prg.N 6)) (0) (List.drop 1 (List.drop 11 (spine (at_ Try.f6 [1, 1, 1, 1, 1, 0, 1, 4, 5, 1, 1, 0, 4])))) st107 = execL TT (acall TT prg (0)) (prg.C 6) (norm 0 (prg.N 6)) (0) (List.drop 1 (List.drop 11 (spine (at_ Try.f6 [1, 1, 1, 1, 1, 0, 1, 4, 5, 1, 1, 0, 4])))) st107 := rfl
                    conv at e108 =>
                      rhs
                      simp [Try.f6, N6, C6_15, C6_16, S6_8, L6_0, X6_8, X6_23, NS6_5, NS6_1, c1, c4, g5, c6, c14, c66, c67, hst107]
                    obtain ⟨st109, hst109, e108⟩ := name_it e108
                    refine Rn.fin e108 ?_
                    refine BlkQ.normal ?_
                    have e110 : execL TT (acall TT prg (0)) (prg.C 6) (norm 0 (prg.N 6)) (0) (List.drop 1 (List.drop 2 (spine L6_0))) st109 = execL TT (acall TT prg (0)) (prg.C 6) (norm 0 (prg.N 6)) (0) (List.drop 1 (List.drop 2 (spine L6_0))) st109 := rfl
                    conv at e110 =>
                      rhs
                      simp [Try.f6, N6, C6_15, C6_16, S6_8, L6_0, X6_8, X6_23, NS6_5, NS6_1, c1, c4, g5, c6, c14, c66, c67, hst109]
                    obtain ⟨st111, hst111, e110⟩ := name_it e110
                    refine Rn.fin e110 ?_
                    exact ok_law16_PartyWaits_l0 x1 x2 y k (iadd .i64 v6001_1 1) v6000_4.1 v6000_4.2.1 v6000_4.2.2.1 v6000_4.2.2.2 true (by intro h; cases h) st111 h (by simp [hst111, S6_8, NS6_16])
                  | false =>
                    have hl116 := hgv6000_4_1 rfl
                    simp only [hl116, List.length_nil, List.nil_append] at *
                    have e112 : execL TT (acall TT prg (0)) (prg.C 6) (norm 0 (prg.N 6)) (0) (List.drop 1 (List.drop 11 (spine (at_ Try.f6 [1, 1, 1, 1, 1, 0, 1, 4, 5, 1, 1, 0, 4])))) st107 = execL TT (acall TT prg (0)) (prg.C 6) (norm 0 (prg.N 6)) (0) (List.drop 1 (List.drop 11 (spine (at_ Try.f6 [1, 1, 1, 1, 1, 0, 1, 4, 5, 1, 1, 0, 4])))) st107 := rfl
                    conv at e112 =>
                      rhs
                      simp [Try.f6, N6, C6_15, C6_16, S6_8, L6_0, X6_8, X6_23, NS6_5, NS6_1, c1, c4, g5, c6, c14, c66, c67, hst107]
                    obtain ⟨st113, hst113, e112⟩ := name_it e112
                    refine Rn.fin e112 ?_
                    refine BlkQ.normal ?_
                    have e114 : execL TT (acall TT prg (0)) (prg.C 6) (norm 0 (prg.N 6)) (0) (List.drop 1 (List.drop 2 (spine L6_0))) st113 = execL TT (acall TT prg (0)) (prg.C 6) (norm 0 (prg.N 6)) (0) (List.drop 1 (List.drop 2 (spine L6_0))) st113 := rfl
                    conv at e114 =>
                      rhs
                      simp [Try.f6, N6, C6_15, C6_16, S6_8, L6_0, X6_8, X6_23, NS6_5, NS6_1, c1, c4, g5, c6, c14, c66, c67, hst113]
                    obtain ⟨st115, hst115, e114⟩ := name_it e114
                    refine Rn.fin e114 ?_
                    exact ok_law16_PartyWaits_l0 x1 x2 y k (iadd .i64 v6001_1 1) v6000_4.1 v6000_4.2.1 v6000_4.2.2.1 ([] : List ByteArray) false (fun _ => rfl) st115 h (by simp [hst115, S6_8, NS6_16])
                · simp only [Sum.elim_inl, Sum.elim_inr] at h
                  obtain ⟨rfl, q104⟩ := q104
                  refine BlkQ.ret ?_
                  refine BlkQ.ret ?_
                  obtain rfl := Option.some.inj h
                  exact ⟨rfl, q104⟩
        · rw [if_neg c4] at h
          replace c4 := eq_false_of_ne_true c4
          cases h
      · rw [if_neg c1] at h
        replace c1 := eq_false_of_ne_true c1
        have e117 : execL TT (acall TT prg (0)) (prg.C 6) (norm 0 (prg.N 6)) (0) (List.take 2 (spine L6_0)) st0 = execL TT (acall TT prg (0)) (prg.C 6) (norm 0 (prg.N 6)) (0) (List.take 2 (spine L6_0)) st0 := rfl
        conv at e117 =>
          rhs
          simp [Try.f6, N6, C6_15, C6_16, S6_8, L6_0, X6_8, X6_23, NS6_5, NS6_1, hst0, c1]
        obtain ⟨st118, hst118, e117⟩ := name_it e117
        refine Rn.stop 2 e117 (by simp) ?_
        obtain rfl := Option.some.inj h
        exact ⟨rfl, true, (by intro h; cases h), by simp [hst118, N6, norm_some, X6_8, NS6_1]⟩
    | false =>
      have hl237 := hg6000_1 rfl
      subst hl237
      try simp only [List.length_nil, List.nil_append] at h
      by_cases c119 : ltI v6001_1 (nI x1.length) = true
      · rw [if_pos c119] at h
        have e120 : execL TT (acall TT prg (0)) (prg.C 6) (norm 0 (prg.N 6)) (0) (List.take 2 (spine L6_0)) st0 = execL TT (acall TT prg (0)) (prg.C 6) (norm 0 (prg.N 6)) (0) (List.take 2 (spine L6_0)) st0 := rfl
        conv at e120 =>
          rhs
          simp [Try.f6, N6, C6_15, C6_16, S6_8, L6_0, X6_8, X6_23, NS6_5, NS6_1, hst0, c119]
        obtain ⟨st121, hst121, e120⟩ := name_it e120
        refine Rn.seg 2 e120 ?_
        rw [show (List.drop 2 (spine L6_0)) = .block 1 (at_ Try.f6 [1, 1, 1, 1, 1, 0, 1, 4, 5, 1, 1, 0, 4]) :: List.drop 1 (List.drop 2 (spine L6_0)) by kernel_rfl]
        refine Rn.block ?_
        by_cases c122 : inI v6001_1 x1.length = true
        · rw [if_pos c122] at h
          obtain ⟨v6000_1, g123, h⟩ := Option.bind_eq_some_iff.1 h
          by_cases c124 : ltI 600 (ssz v6000_1) = true
          · rw [if_pos c124] at h
            have e125 : execL TT (acall TT prg (0)) (prg.C 6) (norm 0 (prg.N 6)) (0) (List.take 3 (spine (at_ Try.f6 [1, 1, 1, 1, 1, 0, 1, 4, 5, 1, 1, 0, 4]))) st121 = execL TT (acall TT prg (0)) (prg.C 6) (norm 0 (prg.N 6)) (0) (List.take 3 (spine (at_ Try.f6 [1, 1, 1, 1, 1, 0, 1, 4, 5, 1, 1, 0, 4]))) st121 := rfl
            conv at e125 =>
              rhs
              simp [Try.f6, N6, C6_15, C6_16, S6_8, L6_0, X6_8, X6_23, NS6_5, NS6_1, c119, hst121, c122, g123, c124]
            obtain ⟨st126, hst126, e125⟩ := name_it e125
            refine Rn.stop 3 e125 (by simp) ?_
            refine BlkQ.exit (norm_none _ (by simp [N6])) ?_
            have e127 : execL TT (acall TT prg (0)) (prg.C 6) (norm 0 (prg.N 6)) (0) (List.drop 1 (List.drop 2 (spine L6_0))) st126 = execL TT (acall TT prg (0)) (prg.C 6) (norm 0 (prg.N 6)) (0) (List.drop 1 (List.drop 2 (spine L6_0))) st126 := rfl
            conv at e127 =>
              rhs
              simp [Try.f6, N6, C6_15, C6_16, S6_8, L6_0, X6_8, X6_23, NS6_5, NS6_1, c119, c122, g123, c124, hst126]
            obtain ⟨st128, hst128, e127⟩ := name_it e127
            refine Rn.fin e127 ?_
            exact ok_law16_PartyWaits_l0 x1 x2 y k (iadd .i64 v6001_1 1) v6001_2 v6001_3 v6001_4 ([] : List ByteArray) false (fun _ => rfl) st128 h (by simp [hst128, S6_8, NS6_16])
          · rw [if_neg c124] at h
            replace c124 := eq_false_of_ne_true c124
            obtain ⟨v6000_2, e129, h⟩ := Option.bind_eq_some_iff.1 h
            obtain ⟨k130, e131⟩ := ok_party_Say k v6001_2 v6001_3 v6001_4 v6000_1 _ e129
            by_cases c132 : eqI v6000_2.2.2.2.2.2 0 = true
            · rw [if_pos c132] at h
              by_cases c133 : roomI ((0 + 1) * 16) = true
              · rw [if_pos c133] at h
                by_cases c134 : ltI v6001_1 (nI x2.length) = true
                · rw [if_pos c134] at h
                  by_cases c135 : inI v6001_1 x2.length = true
                  · rw [if_pos c135] at h
                    obtain ⟨v6000_3, g136, h⟩ := Option.bind_eq_some_iff.1 h
                    by_cases c137 : eqI (iadd .i64 v6000_2.1 1) 0 = true
                    · rw [if_pos c137] at h
                      cases h
                    · rw [if_neg c137] at h
                      replace c137 := eq_false_of_ne_true c137
                      have c138 := eqI_ne c137
                      obtain ⟨v6000_4, e139, h⟩ := Option.bind_eq_some_iff.1 h
                      obtain ⟨k140, e141⟩ := ok_party_Acked k v6000_2.1 v6000_2.2.1 v6000_2.2.2.1 (irem .i64 (conv .i64 v6000_3) (iadd .i64 v6000_2.1 1)) _ e139
                      by_cases c142 : eqI v6000_4.2.2.2 0 = true
                      · rw [if_pos c142] at h
                        by_cases c143 : ltI (nI v6000_2.2.1.length) (nI v6000_4.2.1.length) = true
                        · rw [if_pos c143] at h
                          replace e131 := acall_mono TT prg (show k130 ≤ (60 + k130 + k140) by omega) e131
                          try simp only [List.map_append, List.map_cons, List.map_nil, List.length_nil, sl_nil, accV_t, accV_f, accH_t, accH_f, e_u8, e_str, e_i64_s] at e131
                          replace e141 := acall_mono TT prg (show k140 ≤ (60 + k130 + k140) by omega) e141
                          try simp only [List.map_append, List.map_cons, List.map_nil, List.length_nil, sl_nil, accV_t, accV_f, accH_t, accH_f, e_u8, e_str, e_i64_s] at e141
                          have e144 : execL TT (acall TT prg (60 + k130 + k140)) (prg.C 6) (norm 0 (prg.N 6)) (60 + k130 + k140) (List.take 9 (spine (at_ Try.f6 [1, 1, 1, 1, 1, 0, 1, 4, 5, 1, 1, 0, 4]))) st121 = execL TT (acall TT prg (60 + k130 + k140)) (prg.C 6) (norm 0 (prg.N 6)) (60 + k130 + k140) (List.take 9 (spine (at_ Try.f6 [1, 1, 1, 1, 1, 0, 1, 4, 5, 1, 1, 0, 4]))) st121 := rfl
                          conv at e144 =>
                            rhs
                            simp [Try.f6, N6, C6_15, C6_16, S6_8, L6_0, X6_8, X6_23, NS6_5, NS6_1, c119, hst121, c122, g123, c124, c132, c133, c134, c135, g136, c137, c138, c142, c143, e131, e141]
                          obtain ⟨st145, hst145, e144⟩ := name_it e144
                          refine Rn.stop 9 e144 (by simp) ?_
                          refine BlkQ.ret ?_
                          obtain rfl := Option.some.inj h
                          exact ⟨rfl, by simp [Try.f6, c119, c122, g123, c124, c132, c133, c134, c135, g136, c137, c138, c142, c143, hst145]⟩
                        · rw [if_neg c143] at h
                          replace c143 := eq_false_of_ne_true c143
                          by_cases c146 : ltI (isub .i64 v6000_2.1 (irem .i64 (conv .i64 v6000_3) (iadd .i64 v6000_2.1 1))) (nI v6000_4.2.1.length) = true
                          · rw [if_pos c146] at h
                            replace e131 := acall_mono TT prg (show k130 ≤ (60 + k130 + k140) by omega) e131
                            try simp only [List.map_append, List.map_cons, List.map_nil, List.length_nil, sl_nil, accV_t, accV_f, accH_t, accH_f, e_u8, e_str, e_i64_s] at e131
                            replace e141 := acall_mono TT prg (show k140 ≤ (60 + k130 + k140) by omega) e141
                            try simp only [List.map_append, List.map_cons, List.map_nil, List.length_nil, sl_nil, accV_t, accV_f, accH_t, accH_f, e_u8, e_str, e_i64_s] at e141
                            have e147 : execL TT (acall TT prg (60 + k130 + k140)) (prg.C 6) (norm 0 (prg.N 6)) (60 + k130 + k140) (List.take 9 (spine (at_ Try.f6 [1, 1, 1, 1, 1, 0, 1, 4, 5, 1, 1, 0, 4]))) st121 = execL TT (acall TT prg (60 + k130 + k140)) (prg.C 6) (norm 0 (prg.N 6)) (60 + k130 + k140) (List.take 9 (spine (at_ Try.f6 [1, 1, 1, 1, 1, 0, 1, 4, 5, 1, 1, 0, 4]))) st121 := rfl
                            conv at e147 =>
                              rhs
                              simp [Try.f6, N6, C6_15, C6_16, S6_8, L6_0, X6_8, X6_23, NS6_5, NS6_1, c119, hst121, c122, g123, c124, c132, c133, c134, c135, g136, c137, c138, c142, c143, c146, e131, e141]
                            obtain ⟨st148, hst148, e147⟩ := name_it e147
                            refine Rn.stop 9 e147 (by simp) ?_
                            refine BlkQ.ret ?_
                            obtain rfl := Option.some.inj h
                            exact ⟨rfl, by simp [Try.f6, c119, c122, g123, c124, c132, c133, c134, c135, g136, c137, c138, c142, c143, c146, hst148]⟩
                          · rw [if_neg c146] at h
                            replace c146 := eq_false_of_ne_true c146
                            replace e131 := acall_mono TT prg (show k130 ≤ (60 + k130 + k140) by omega) e131
                            try simp only [List.map_append, List.map_cons, List.map_nil, List.length_nil, sl_nil, accV_t, accV_f, accH_t, accH_f, e_u8, e_str, e_i64_s] at e131
                            replace e141 := acall_mono TT prg (show k140 ≤ (60 + k130 + k140) by omega) e141
                            try simp only [List.map_append, List.map_cons, List.map_nil, List.length_nil, sl_nil, accV_t, accV_f, accH_t, accH_f, e_u8, e_str, e_i64_s] at e141
                            have e149 : execL TT (acall TT prg (60 + k130 + k140)) (prg.C 6) (norm 0 (prg.N 6)) (60 + k130 + k140) (List.take 11 (spine (at_ Try.f6 [1, 1, 1, 1, 1, 0, 1, 4, 5, 1, 1, 0, 4]))) st121 = execL TT (acall TT prg (60 + k130 + k140)) (prg.C 6) (norm 0 (prg.N 6)) (60 + k130 + k140) (List.take 11 (spine (at_ Try.f6 [1, 1, 1, 1, 1, 0, 1, 4, 5, 1, 1, 0, 4]))) st121 := rfl
                            conv at e149 =>
                              rhs
                              simp [Try.f6, N6, C6_15, C6_16, S6_8, L6_0, X6_8, X6_23, NS6_5, NS6_1, c119, hst121, c122, g123, c124, c132, c133, c134, c135, g136, c137, c138, c142, c143, c146, e131, e141]
                            obtain ⟨st150, hst150, e149⟩ := name_it e149
                            refine Rn.seg 11 e149 ?_
                            rw [show (List.drop 11 (spine (at_ Try.f6 [1, 1, 1, 1, 1, 0, 1, 4, 5, 1, 1, 0, 4]))) = .block 2 (.loop L6_1) :: (List.drop 1 (List.drop 11 (spine (at_ Try.f6 [1, 1, 1, 1, 1, 0, 1, 4, 5, 1, 1, 0, 4])))) by kernel_rfl]
                            refine Rn.block ?_
                            obtain ⟨v6000_5, e151, h⟩ := Option.bind_eq_some_iff.1 h
                            refine Rn.mono (ok_law16_PartyWaits_l1 x1 x2 v6001_1 v6000_5 k 0 (isub .i64 v6000_4.1 (nI v6000_4.2.1.length)) v6000_4.2.1 (nI v6000_4.2.1.length) v6000_4.1 v6000_4.2.1 v6000_4.2.2.1 (([] : List ByteArray) ++ [v6000_1]) true (by intro h; cases h) st150 e151 (by simp [hst150, S6_23, NS6_46])) ?_
                            intro x_154 st153 q152
                            rcases v6000_5 with v6000_6 | v6000_6
                            · simp only [Sum.elim_inl, Sum.elim_inr] at h
                              obtain ⟨rfl, gv6000_6_1, hgv6000_6_1, q152⟩ := q152
                              obtain ⟨st155, hst155, q152⟩ := name_it1 q152
                              refine BlkQ.exit q152 ?_
                              cases gv6000_6_1 with
                              | true =>
                                have e156 : execL TT (acall TT prg (0)) (prg.C 6) (norm 0 (prg.N 6)) (0) (List.drop 1 (List.drop 11 (spine (at_ Try.f6 [1, 1, 1, 1, 1, 0, 1, 4, 5, 1, 1, 0, 4])))) st155 = execL TT (acall TT prg (0)) (prg.C 6) (norm 0 (prg.N 6)) (0) (List.drop 1 (List.drop 11 (spine (at_ Try.f6 [1, 1, 1, 1, 1, 0, 1, 4, 5, 1, 1, 0, 4])))) st155 := rfl
                                conv at e156 =>
                                  rhs
                                  simp [Try.f6, N6, C6_15, C6_16, S6_8, L6_0, X6_8, X6_23, NS6_5, NS6_1, c119, c122, g123, c124, c132, c133, c134, c135, g136, c137, c138, c142, c143, c146, hst155]
                                obtain ⟨st157, hst157, e156⟩ := name_it e156
                                refine Rn.fin e156 ?_
                                refine BlkQ.normal ?_
                                have e158 : execL TT (acall TT prg (0)) (prg.C 6) (norm 0 (prg.N 6)) (0) (List.drop 1 (List.drop 2 (spine L6_0))) st157 = execL TT (acall TT prg (0)) (prg.C 6) (norm 0 (prg.N 6)) (0) (List.drop 1 (List.drop 2 (spine L6_0))) st157 := rfl
                                conv at e158 =>
                                  rhs
                                  simp [Try.f6, N6, C6_15, C6_16, S6_8, L6_0, X6_8, X6_23, NS6_5, NS6_1, c119, c122, g123, c124, c132, c133, c134, c135, g136, c137, c138, c142, c143, c146, hst157]
                                obtain ⟨st159, hst159, e158⟩ := name_it e158
                                refine Rn.fin e158 ?_
                                exact ok_law16_PartyWaits_l0 x1 x2 y k (iadd .i64 v6001_1 1) v6000_6.1 v6000_6.2.1 v6000_6.2.2.1 v6000_6.2.2.2 true (by intro h; cases h) st159 h (by simp [hst159, S6_8, NS6_16])
                              | false =>
                                have hl164 := hgv6000_6_1 rfl
                                simp only [hl164, List.length_nil, List.nil_append] at *
                                have e160 : execL TT (acall TT prg (0)) (prg.C 6) (norm 0 (prg.N 6)) (0) (List.drop 1 (List.drop 11 (spine (at_ Try.f6 [1, 1, 1, 1, 1, 0, 1, 4, 5, 1, 1, 0, 4])))) st155 = execL TT (acall TT prg (0)) (prg.C 6) (norm 0 (prg.N 6)) (0) (List.drop 1 (List.drop 11 (spine (at_ Try.f6 [1, 1, 1, 1, 1, 0, 1, 4, 5, 1, 1, 0, 4])))) st155 := rfl
                                conv at e160 =>
                                  rhs
                                  simp [Try.f6, N6, C6_15, C6_16, S6_8, L6_0, X6_8, X6_23, NS6_5, NS6_1, c119, c122, g123, c124, c132, c133, c134, c135, g136, c137, c138, c142, c143, c146, hst155]
                                obtain ⟨st161, hst161, e160⟩ := name_it e160
                                refine Rn.fin e160 ?_
                                refine BlkQ.normal ?_
                                have e162 : execL TT (acall TT prg (0)) (prg.C 6) (norm 0 (prg.N 6)) (0) (List.drop 1 (List.drop 2 (spine L6_0))) st161 = execL TT (acall TT prg (0)) (prg.C 6) (norm 0 (prg.N 6)) (0) (List.drop 1 (List.drop 2 (spine L6_0))) st161 := rfl
                                conv at e162 =>
                                  rhs
                                  simp [Try.f6, N6, C6_15, C6_16, S6_8, L6_0, X6_8, X6_23, NS6_5, NS6_1, c119, c122, g123, c124, c132, c133, c134, c135, g136, c137, c138, c142, c143, c146, hst161]
                                obtain ⟨st163, hst163, e162⟩ := name_it e162
                                refine Rn.fin e162 ?_
                                exact ok_law16_PartyWaits_l0 x1 x2 y k (iadd .i64 v6001_1 1) v6000_6.1 v6000_6.2.1 v6000_6.2.2.1 ([] : List ByteArray) false (fun _ => rfl) st163 h (by simp [hst163, S6_8, NS6_16])
                            · simp only [Sum.elim_inl, Sum.elim_inr] at h
                              obtain ⟨rfl, q152⟩ := q152
                              refine BlkQ.ret ?_
                              refine BlkQ.ret ?_
                              obtain rfl := Option.some.inj h
                              exact ⟨rfl, q152⟩
                      · rw [if_neg c142] at h
                        replace c142 := eq_false_of_ne_true c142
                        have c165 := eqI_ne c142
                        replace e131 := acall_mono TT prg (show k130 ≤ (60 + k130 + k140) by omega) e131
                        try simp only [List.map_append, List.map_cons, List.map_nil, List.length_nil, sl_nil, accV_t, accV_f, accH_t, accH_f, e_u8, e_str, e_i64_s] at e131
                        replace e141 := acall_mono TT prg (show k140 ≤ (60 + k130 + k140) by omega) e141
                        try simp only [List.map_append, List.map_cons, List.map_nil, List.length_nil, sl_nil, accV_t, accV_f, accH_t, accH_f, e_u8, e_str, e_i64_s] at e141
                        have e166 : execL TT (acall TT prg (60 + k130 + k140)) (prg.C 6) (norm 0 (prg.N 6)) (60 + k130 + k140) (List.take 9 (spine (at_ Try.f6 [1, 1, 1, 1, 1, 0, 1, 4, 5, 1, 1, 0, 4]))) st121 = execL TT (acall TT prg (60 + k130 + k140)) (prg.C 6) (norm 0 (prg.N 6)) (60 + k130 + k140) (List.take 9 (spine (at_ Try.f6 [1, 1, 1, 1, 1, 0, 1, 4, 5, 1, 1, 0, 4]))) st121 := rfl
                        conv at e166 =>
                          rhs
                          simp [Try.f6, N6, C6_15, C6_16, S6_8, L6_0, X6_8, X6_23, NS6_5, NS6_1, c119, hst121, c122, g123, c124, c132, c133, c134, c135, g136, c137, c138, c142, c165, e131, e141]
                        obtain ⟨st167, hst167, e166⟩ := name_it e166
                        refine Rn.stop 9 e166 (by simp) ?_
                        refine BlkQ.ret ?_
                        obtain rfl := Option.some.inj h
                        exact ⟨rfl, by simp [Try.f6, c119, c122, g123, c124, c132, c133, c134, c135, g136, c137, c138, c142, c165, hst167]⟩
                  · rw [if_neg c135] at h
                    replace c135 := eq_false_of_ne_true c135
                    cases h
                · rw [if_neg c134] at h
                  replace c134 := eq_false_of_ne_true c134
                  replace e131 := acall_mono TT prg (show k130 ≤ (60 + k130) by omega) e131
                  try simp only [List.map_append, List.map_cons, List.map_nil, List.length_nil, sl_nil, accV_t, accV_f, accH_t, accH_f, e_u8, e_str, e_i64_s] at e131
                  have e168 : execL TT (acall TT prg (60 + k130)) (prg.C 6) (norm 0 (prg.N 6)) (60 + k130) (List.take 11 (spine (at_ Try.f6 [1, 1, 1, 1, 1, 0, 1, 4, 5, 1, 1, 0, 4]))) st121 = execL TT (acall TT prg (60 + k130)) (prg.C 6) (norm 0 (prg.N 6)) (60 + k130) (List.take 11 (spine (at_ Try.f6 [1, 1, 1, 1, 1, 0, 1, 4, 5, 1, 1, 0, 4]))) st121 := rfl
                  conv at e168 =>
                    rhs
                    simp [Try.f6, N6, C6_15, C6_16, S6_8, L6_0, X6_8, X6_23, NS6_5, NS6_1, c119, hst121, c122, g123, c124, c132, c133, c134, e131]
                  obtain ⟨st169, hst169, e168⟩ := name_it e168
                  refine Rn.seg 11 e168 ?_
                  rw [show (List.drop 11 (spine (at_ Try.f6 [1, 1, 1, 1, 1, 0, 1, 4, 5, 1, 1, 0, 4]))) = .block 2 (.loop L6_1) :: (List.drop 1 (List.drop 11 (spine (at_ Try.f6 [1, 1, 1, 1, 1, 0, 1, 4, 5, 1, 1, 0, 4])))) by kernel_rfl]
                  refine Rn.block ?_
                  obtain ⟨v6000_3, e170, h⟩ := Option.bind_eq_some_iff.1 h
                  refine Rn.mono (ok_law16_PartyWaits_l1 x1 x2 v6001_1 v6000_3 k 0 (isub .i64 v6000_2.1 (nI v6000_2.2.1.length)) v6000_2.2.1 (nI v6000_2.2.1.length) v6000_2.1 v6000_2.2.1 v6000_2.2.2.1 (([] : List ByteArray) ++ [v6000_1]) true (by intro h; cases h) st169 e170 (by simp [hst169, S6_23, NS6_46])) ?_
                  intro x_173 st172 q171
                  rcases v6000_3 with v6000_4 | v6000_4
                  · simp only [Sum.elim_inl, Sum.elim_inr] at h
                    obtain ⟨rfl, gv6000_4_1, hgv6000_4_1, q171⟩ := q171
                    obtain ⟨st174, hst174, q171⟩ := name_it1 q171
                    refine BlkQ.exit q171 ?_
                    cases gv6000_4_1 with
                    | true =>
                      have e175 : execL TT (acall TT prg (0)) (prg.C 6) (norm 0 (prg.N 6)) (0) (List.drop 1 (List.drop 11 (spine (at_ Try.f6 [1, 1, 1, 1, 1, 0, 1, 4, 5, 1, 1, 0, 4])))) st174 = execL TT (acall TT prg (0)) (prg.C 6) (norm 0 (prg.N 6)) (0) (List.drop 1 (List.drop 11 (spine (at_ Try.f6 [1, 1, 1, 1, 1, 0, 1, 4, 5, 1, 1, 0, 4])))) st174 := rfl
                      conv at e175 =>
                        rhs
                        simp [Try.f6, N6, C6_15, C6_16, S6_8, L6_0, X6_8, X6_23, NS6_5, NS6_1, c119, c122, g123, c124, c132, c133, c134, hst174]
                      obtain ⟨st176, hst176, e175⟩ := name_it e175
                      refine Rn.fin e175 ?_
                      refine BlkQ.normal ?_
                      have e177 : execL TT (acall TT prg (0)) (prg.C 6) (norm 0 (prg.N 6)) (0) (List.drop 1 (List.drop 2 (spine L6_0))) st176 = execL TT (acall TT prg (0)) (prg.C 6) (norm 0 (prg.N 6)) (0) (List.drop 1 (List.drop 2 (spine L6_0))) st176 := rfl
                      conv at e177 =>
                        rhs
                        simp [Try.f6, N6, C6_15, C6_16, S6_8, L6_0, X6_8, X6_23, NS6_5, NS6_1, c119, c122, g123, c124, c132, c133, c134, hst176]
                      obtain ⟨st178, hst178, e177⟩ := name_it e177
                      refine Rn.fin e177 ?_
                      exact ok_law16_PartyWaits_l0 x1 x2 y k (iadd .i64 v6001_1 1) v6000_4.1 v6000_4.2.1 v6000_4.2.2.1 v6000_4.2.2.2 true (by intro h; cases h) st178 h (by simp [hst178, S6_8, NS6_16])
                    | false =>
                      have hl183 := hgv6000_4_1 rfl
                      simp only [hl183, List.length_nil, List.nil_append] at *
                      have e179 : execL TT (acall TT prg (0)) (prg.C 6) (norm 0 (prg.N 6)) (0) (List.drop 1 (List.drop 11 (spine (at_ Try.f6 [1, 1, 1, 1, 1, 0, 1, 4, 5, 1, 1, 0, 4])))) st174 = execL TT (acall TT prg (0)) (prg.C 6) (norm 0 (prg.N 6)) (0) (List.drop 1 (List.drop 11 (spine (at_ Try.f6 [1, 1, 1, 1, 1, 0, 1, 4, 5, 1, 1, 0, 4])))) st174 := rfl
                      conv at e179 =>
                        rhs
                        simp [Try.f6, N6, C6_15, C6_16, S6_8, L6_0, X6_8, X6_23, NS6_5, NS6_1, c119, c122, g123, c124, c132, c133, c134, hst174]
                      obtain ⟨st180, hst180, e179⟩ := name_it e179
                      refine Rn.fin e179 ?_
                      refine BlkQ.normal ?_
                      have e181 : execL TT (acall TT prg (0)) (prg.C 6) (norm 0 (prg.N 6)) (0) (List.drop 1 (List.drop 2 (spine L6_0))) st180 = execL TT (acall TT prg (0)) (prg.C 6) (norm 0 (prg.N 6)) (0) (List.drop 1 (List.drop 2 (spine L6_0))) st180 := rfl
                      conv at e181 =>
                        rhs
                        simp [Try.f6, N6, C6_15, C6_16, S6_8, L6_0, X6_8, X6_23, NS6_5, NS6_1, c119, c122, g123, c124, c132, c133, c134, hst180]
                      obtain ⟨st182, hst182, e181⟩ := name_it e181
                      refine Rn.fin e181 ?_
                      exact ok_law16_PartyWaits_l0 x1 x2 y k (iadd .i64 v6001_1 1) v6000_4.1 v6000_4.2.1 v6000_4.2.2.1 ([] : List ByteArray) false (fun _ => rfl) st182 h (by simp [hst182, S6_8, NS6_16])
                  · simp only [Sum.elim_inl, Sum.elim_inr] at h
                    obtain ⟨rfl, q171⟩ := q171
                    refine BlkQ.ret ?_
                    refine BlkQ.ret ?_
                    obtain rfl := Option.some.inj h
                    exact ⟨rfl, q171⟩
              · rw [if_neg c133] at h
                replace c133 := eq_false_of_ne_true c133
                cases h
            · rw [if_neg c132] at h
              replace c132 := eq_false_of_ne_true c132
              have c184 := eqI_ne c132
              by_cases c185 : ltI v6001_1 (nI x2.length) = true
              · rw [if_pos c185] at h
                by_cases c186 : inI v6001_1 x2.length = true
                · rw [if_pos c186] at h
                  obtain ⟨v6000_3, g187, h⟩ := Option.bind_eq_some_iff.1 h
                  by_cases c188 : eqI (iadd .i64 v6000_2.1 1) 0 = true
                  · rw [if_pos c188] at h
                    cases h
                  · rw [if_neg c188] at h
                    replace c188 := eq_false_of_ne_true c188
                    have c189 := eqI_ne c188
                    obtain ⟨v6000_4, e190, h⟩ := Option.bind_eq_some_iff.1 h
                    obtain ⟨k191, e192⟩ := ok_party_Acked k v6000_2.1 v6000_2.2.1 v6000_2.2.2.1 (irem .i64 (conv .i64 v6000_3) (iadd .i64 v6000_2.1 1)) _ e190
                    by_cases c193 : eqI v6000_4.2.2.2 0 = true
                    · rw [if_pos c193] at h
                      by_cases c194 : ltI (nI v6000_2.2.1.length) (nI v6000_4.2.1.length) = true
                      · rw [if_pos c194] at h
                        replace e131 := acall_mono TT prg (show k130 ≤ (60 + k130 + k191) by omega) e131
                        try simp only [List.map_append, List.map_cons, List.map_nil, List.length_nil, sl_nil, accV_t, accV_f, accH_t, accH_f, e_u8, e_str, e_i64_s] at e131
                        replace e192 := acall_mono TT prg (show k191 ≤ (60 + k130 + k191) by omega) e192
                        try simp only [List.map_append, List.map_cons, List.map_nil, List.length_nil, sl_nil, accV_t, accV_f, accH_t, accH_f, e_u8, e_str, e_i64_s] at e192
                        have e195 : execL TT (acall TT prg (60 + k130 + k191)) (prg.C 6) (norm 0 (prg.N 6)) (60 + k130 + k191) (List.take 9 (spine (at_ Try.f6 [1, 1, 1, 1, 1, 0, 1, 4, 5, 1, 1, 0, 4]))) st121 = execL TT (acall TT prg (60 + k130 + k191)) (prg.C 6) (norm 0 (prg.N 6)) (60 + k130 + k191) (List.take 9 (spine (at_ Try.f6 [1, 1, 1, 1, 1, 0, 1, 4, 5, 1, 1, 0, 4]))) st121 := rfl
                        conv at e195 =>
                          rhs
                          simp [Try.f6, N6, C6_15, C6_16, S6_8, L6_0, X6_8, X6_23, NS6_5, NS6_1, c119, hst121, c122, g123, c124, c132, c184, c185, c186, g187, c188, c189, c193, c194, e131, e192]
                        obtain ⟨st196, hst196, e195⟩ := name_it e195
                        refine Rn.stop 9 e195 (by simp) ?_
                        refine BlkQ.ret ?_
                        obtain rfl := Option.some.inj h
                        exact ⟨rfl, by simp [Try.f6, c119, c122, g123, c124, c132, c184, c185, c186, g187, c188, c189, c193, c194, hst196]⟩
                      · rw [if_neg c194] at h
                        replace c194 := eq_false_of_ne_true c194
                        by_cases c197 : ltI (isub .i64 v6000_2.1 (irem .i64 (conv .i64 v6000_3) (iadd .i64 v6000_2.1 1))) (nI v6000_4.2.1.length) = true
                        · rw [if_pos c197] at h
                          replace e131 := acall_mono TT prg (show k130 ≤ (60 + k130 + k191) by omega) e131
                          try simp only [List.map_append, List.map_cons, List.map_nil, List.length_nil, sl_nil, accV_t, accV_f, accH_t, accH_f, e_u8, e_str, e_i64_s] at e131
                          replace e192 := acall_mono TT prg (show k191 ≤ (60 + k130 + k191) by omega) e192
                          try simp only [List.map_append, List.map_cons, List.map_nil, List.length_nil, sl_nil, accV_t, accV_f, accH_t, accH_f, e_u8, e_str, e_i64_s] at e192
                          have e198 : execL TT (acall TT prg (60 + k130 + k191)) (prg.C 6) (norm 0 (prg.N 6)) (60 + k130 + k191) (List.take 9 (spine (at_ Try.f6 [1, 1, 1, 1, 1, 0, 1, 4, 5, 1, 1, 0, 4]))) st121 = execL TT (acall TT prg (60 + k130 + k191)) (prg.C 6) (norm 0 (prg.N 6)) (60 + k130 + k191) (List.take 9 (spine (at_ Try.f6 [1, 1, 1, 1, 1, 0, 1, 4, 5, 1, 1, 0, 4]))) st121 := rfl
                          conv at e198 =>
                            rhs
                            simp [Try.f6, N6, C6_15, C6_16, S6_8, L6_0, X6_8, X6_23, NS6_5, NS6_1, c119, hst121, c122, g123, c124, c132, c184, c185, c186, g187, c188, c189, c193, c194, c197, e131, e192]
                          obtain ⟨st199, hst199, e198⟩ := name_it e198
                          refine Rn.stop 9 e198 (by simp) ?_
                          refine BlkQ.ret ?_
                          obtain rfl := Option.some.inj h
                          exact ⟨rfl, by simp [Try.f6, c119, c122, g123, c124, c132, c184, c185, c186, g187, c188, c189, c193, c194, c197, hst199]⟩
                        · rw [if_neg c197] at h
                          replace c197 := eq_false_of_ne_true c197
                          replace e131 := acall_mono TT prg (show k130 ≤ (60 + k130 + k191) by omega) e131
                          try simp only [List.map_append, List.map_cons, List.map_nil, List.length_nil, sl_nil, accV_t, accV_f, accH_t, accH_f, e_u8, e_str, e_i64_s] at e131
                          replace e192 := acall_mono TT prg (show k191 ≤ (60 + k130 + k191) by omega) e192
                          try simp only [List.map_append, List.map_cons, List.map_nil, List.length_nil, sl_nil, accV_t, accV_f, accH_t, accH_f, e_u8, e_str, e_i64_s] at e192
                          have e200 : execL TT (acall TT prg (60 + k130 + k191)) (prg.C 6) (norm 0 (prg.N 6)) (60 + k130 + k191) (List.take 11 (spine (at_ Try.f6 [1, 1, 1, 1, 1, 0, 1, 4, 5, 1, 1, 0, 4]))) st121 = execL TT (acall TT prg (60 + k130 + k191)) (prg.C 6) (norm 0 (prg.N 6)) (60 + k130 + k191) (List.take 11 (spine (at_ Try.f6 [1, 1, 1, 1, 1, 0, 1, 4, 5, 1, 1, 0, 4]))) st121 := rfl
                          conv at e200 =>
                            rhs
                            simp [Try.f6, N6, C6_15, C6_16, S6_8, L6_0, X6_8, X6_23, NS6_5, NS6_1, c119, hst121, c122, g123, c124, c132, c184, c185, c186, g187, c188, c189, c193, c194, c197, e131, e192]
                          obtain ⟨st201, hst201, e200⟩ := name_it e200
                          refine Rn.seg 11 e200 ?_
                          rw [show (List.drop 11 (spine (at_ Try.f6 [1, 1, 1, 1, 1, 0, 1, 4, 5, 1, 1, 0, 4]))) = .block 2 (.loop L6_1) :: (List.drop 1 (List.drop 11 (spine (at_ Try.f6 [1, 1, 1, 1, 1, 0, 1, 4, 5, 1, 1, 0, 4])))) by kernel_rfl]
                          refine Rn.block ?_
                          obtain ⟨v6000_5, e202, h⟩ := Option.bind_eq_some_iff.1 h
                          refine Rn.mono (ok_law16_PartyWaits_l1 x1 x2 v6001_1 v6000_5 k 0 (isub .i64 v6000_4.1 (nI v6000_4.2.1.length)) v6000_4.2.1 (nI v6000_4.2.1.length) v6000_4.1 v6000_4.2.1 v6000_4.2.2.1 ([] : List ByteArray) false (fun _ => rfl) st201 e202 (by simp [hst201, S6_23, NS6_46])) ?_
                          intro x_205 st204 q203
                          rcases v6000_5 with v6000_6 | v6000_6
                          · simp only [Sum.elim_inl, Sum.elim_inr] at h
                            obtain ⟨rfl, gv6000_6_1, hgv6000_6_1, q203⟩ := q203
                            obtain ⟨st206, hst206, q203⟩ := name_it1 q203
                            refine BlkQ.exit q203 ?_
                            cases gv6000_6_1 with
                            | true =>
                              have e207 : execL TT (acall TT prg (0)) (prg.C 6) (norm 0 (prg.N 6)) (0) (List.drop 1 (List.drop 11 (spine (at_ Try.f6 [1, 1, 1, 1, 1, 0, 1, 4, 5, 1, 1, 0, 4])))) st206 = execL TT (acall TT prg (0)) (prg.C 6) (norm 0 (prg.N 6)) (0) (List.drop 1 (List.drop 11 (spine (at_ Try.f6 [1, 1, 1, 1, 1, 0, 1, 4, 5, 1, 1, 0, 4])))) st206 := rfl
                              conv at e207 =>
                                rhs
                                simp [Try.f6, N6, C6_15, C6_16, S6_8, L6_0, X6_8, X6_23, NS6_5, NS6_1, c119, c122, g123, c124, c132, c184, c185, c186, g187, c188, c189, c193, c194, c197, hst206]
                              obtain ⟨st208, hst208, e207⟩ := name_it e207
                              refine Rn.fin e207 ?_
                              refine BlkQ.normal ?_
                              have e209 : execL TT (acall TT prg (0)) (prg.C 6) (norm 0 (prg.N 6)) (0) (List.drop 1 (List.drop 2 (spine L6_0))) st208 = execL TT (acall TT prg (0)) (prg.C 6) (norm 0 (prg.N 6)) (0) (List.drop 1 (List.drop 2 (spine L6_0))) st208 := rfl
                              conv at e209 =>
                                rhs
                                simp [Try.f6, N6, C6_15, C6_16, S6_8, L6_0, X6_8, X6_23, NS6_5, NS6_1, c119, c122, g123, c124, c132, c184, c185, c186, g187, c188, c189, c193, c194, c197, hst208]
                              obtain ⟨st210, hst210, e209⟩ := name_it e209
                              refine Rn.fin e209 ?_
                              exact ok_law16_PartyWaits_l0 x1 x2 y k (iadd .i64 v6001_1 1) v6000_6.1 v6000_6.2.1 v6000_6.2.2.1 v6000_6.2.2.2 true (by intro h; cases h) st210 h (by simp [hst210, S6_8, NS6_16])
                            | false =>
                              have hl215 := hgv6000_6_1 rfl
                              simp only [hl215, List.length_nil, List.nil_append] at *
                              have e211 : execL TT (acall TT prg (0)) (prg.C 6) (norm 0 (prg.N 6)) (0) (List.drop 1 (List.drop 11 (spine (at_ Try.f6 [1, 1, 1, 1, 1, 0, 1, 4, 5, 1, 1, 0, 4])))) st206 = execL TT (acall TT prg (0)) (prg.C 6) (norm 0 (prg.N 6)) (0) (List.drop 1 (List.drop 11 (spine (at_ Try.f6 [1, 1, 1, 1, 1, 0, 1, 4, 5, 1, 1, 0, 4])))) st206 := rfl
                              conv at e211 =>
                                rhs
                                simp [Try.f6, N6, C6_15, C6_16, S6_8, L6_0, X6_8, X6_23, NS6_5, NS6_1, c119, c122, g123, c124, c132, c184, c185, c186, g187, c188, c189, c193, c194, c197, hst206]
                              obtain ⟨st212, hst212, e211⟩ := name_it e211
                              refine Rn.fin e211 ?_
                              refine BlkQ.normal ?_
                              have e213 : execL TT (acall TT prg (0)) (prg.C 6) (norm 0 (prg.N 6)) (0) (List.drop 1 (List.drop 2 (spine L6_0))) st212 = execL TT (acall TT prg (0)) (prg.C 6) (norm 0 (prg.N 6)) (0) (List.drop 1 (List.drop 2 (spine L6_0))) st212 := rfl
                              conv at e213 =>
                                rhs
                                simp [Try.f6, N6, C6_15, C6_16, S6_8, L6_0, X6_8, X6_23, NS6_5, NS6_1, c119, c122, g123, c124, c132, c184, c185, c186, g187, c188, c189, c193, c194, c197, hst212]
                              obtain ⟨st214, hst214, e213⟩ := name_it e213
                              refine Rn.fin e213 ?_
                              exact ok_law16_PartyWaits_l0 x1 x2 y k (iadd .i64 v6001_1 1) v6000_6.1 v6000_6.2.1 v6000_6.2.2.1 ([] : List ByteArray) false (fun _ => rfl) st214 h (by simp [hst214, S6_8, NS6_16])
                          · simp only [Sum.elim_inl, Sum.elim_inr] at h
                            obtain ⟨rfl, q203⟩ := q203
                            refine BlkQ.ret ?_
                            refine BlkQ.ret ?_
                            obtain rfl := Option.some.inj h
                            exact ⟨rfl, q203⟩
                    · rw [if_neg c193] at h
                      replace c193 := eq_false_of_ne_true c193
                      have c216 := eqI_ne c193
                      replace e131 := acall_mono TT prg (show k130 ≤ (60 + k130 + k191) by omega) e131
                      try simp only [List.map_append, List.map_cons, List.map_nil, List.length_nil, sl_nil, accV_t, accV_f, accH_t, accH_f, e_u8, e_str, e_i64_s] at e131
                      replace e192 := acall_mono TT prg (show k191 ≤ (60 + k130 + k191) by omega) e192
                      try simp only [List.map_append, List.map_cons, List.map_nil, List.length_nil, sl_nil, accV_t, accV_f, accH_t, accH_f, e_u8, e_str, e_i64_s] at e192
                      have e217 : execL TT (acall TT prg (60 + k130 + k191)) (prg.C 6) (norm 0 (prg.N 6)) (60 + k130 + k191) (List.take 9 (spine (at_ Try.f6 [1, 1, 1, 1, 1, 0, 1, 4, 5, 1, 1, 0, 4]))) st121 = execL TT (acall TT prg (60 + k130 + k191)) (prg.C 6) (norm 0 (prg.N 6)) (60 + k130 + k191) (List.take 9 (spine (at_ Try.f6 [1, 1, 1, 1, 1, 0, 1, 4, 5, 1, 1, 0, 4]))) st121 := rfl
                      conv at e217 =>
                        rhs
                        simp [Try.f6, N6, C6_15, C6_16, S6_8, L6_0, X6_8, X6_23, NS6_5, NS6_1, c119, hst121, c122, g123, c124, c132, c184, c185, c186, g187, c188, c189, c193, c216, e131, e192]
                      obtain ⟨st218, hst218, e217⟩ := name_it e217
                      refine Rn.stop 9 e217 (by simp) ?_
                      refine BlkQ.ret ?_
                      obtain rfl := Option.some.inj h
                      exact ⟨rfl, by simp [Try.f6, c119, c122, g123, c124, c132, c184, c185, c186, g187, c188, c189, c193, c216, hst218]⟩
                · rw [if_neg c186] at h
                  replace c186 := eq_false_of_ne_true c186
                  cases h
              · rw [if_neg c185] at h
                replace c185 := eq_false_of_ne_true c185
                replace e131 := acall_mono TT prg (show k130 ≤ (60 + k130) by omega) e131
                try simp only [List.map_append, List.map_cons, List.map_nil, List.length_nil, sl_nil, accV_t, accV_f, accH_t, accH_f, e_u8, e_str, e_i64_s] at e131
                have e219 : execL TT (acall TT prg (60 + k130)) (prg.C 6) (norm 0 (prg.N 6)) (60 + k130) (List.take 11 (spine (at_ Try.f6 [1, 1, 1, 1, 1, 0, 1, 4, 5, 1, 1, 0, 4]))) st121 = execL TT (acall TT prg (60 + k130)) (prg.C 6) (norm 0 (prg.N 6)) (60 + k130) (List.take 11 (spine (at_ Try.f6 [1, 1, 1, 1, 1, 0, 1, 4, 5, 1, 1, 0, 4]))) st121 := rfl
                conv at e219 =>
                  rhs
                  simp [Try.f6, N6, C6_15, C6_16, S6_8, L6_0, X6_8, X6_23, NS6_5, NS6_1, c119, hst121, c122, g123, c124, c132, c184, c185, e131]
                obtain ⟨st220, hst220, e219⟩ := name_it e219
                refine Rn.seg 11 e219 ?_
                rw [show (List.drop 11 (spine (at_ Try.f6 [1, 1, 1, 1, 1, 0, 1, 4, 5, 1, 1, 0, 4]))) = .block 2 (.loop L6_1) :: (List.drop 1 (List.drop 11 (spine (at_ Try.f6 [1, 1, 1, 1, 1, 0, 1, 4, 5, 1, 1, 0, 4])))) by kernel_rfl]
                refine Rn.block ?_
                obtain ⟨v6000_3, e221, h⟩ := Option.bind_eq_some_iff.1 h
                refine Rn.mono (ok_law16_PartyWaits_l1 x1 x2 v6001_1 v6000_3 k 0 (isub .i64 v6000_2.1 (nI v6000_2.2.1.length)) v6000_2.2.1 (nI v6000_2.2.1.length) v6000_2.1 v6000_2.2.1 v6000_2.2.2.1 ([] : List ByteArray) false (fun _ => rfl) st220 e221 (by simp [hst220, S6_23, NS6_46])) ?_
                intro x_224 st223 q222
                rcases v6000_3 with v6000_4 | v6000_4
                · simp only [Sum.elim_inl, Sum.elim_inr] at h
                  obtain ⟨rfl, gv6000_4_1, hgv6000_4_1, q222⟩ := q222
                  obtain ⟨st225, hst225, q222⟩ := name_it1 q222
                  refine BlkQ.exit q222 ?_
                  cases gv6000_4_1 with
                  | true =>
                    have e226 : execL TT (acall TT prg (0)) (prg.C 6) (norm 0 (prg.N 6)) (0) (List.drop 1 (List.drop 11 (spine (at_ Try.f6 [1, 1, 1, 1, 1, 0, 1, 4, 5, 1, 1, 0, 4])))) st225 = execL TT (acall TT prg (0)) (prg.C 6) (norm 0 (prg.N 6)) (0) (List.drop 1 (List.drop 11 (spine (at_ Try.f6 [1, 1, 1, 1, 1, 0, 1, 4, 5, 1, 1, 0, 4])))) st225 := rfl
                    conv at e226 =>
                      rhs
                      simp [Try.f6, N6, C6_15, C6_16, S6_8, L6_0, X6_8, X6_23, NS6_5, NS6_1, c119, c122, g123, c124, c132, c184, c185, hst225]
                    obtain ⟨st227, hst227, e226⟩ := name_it e226
                    refine Rn.fin e226 ?_
                    refine BlkQ.normal ?_
                    have e228 : execL TT (acall TT prg (0)) (prg.C 6) (norm 0 (prg.N 6)) (0) (List.drop 1 (List.drop 2 (spine L6_0))) st227 = execL TT (acall TT prg (0)) (prg.C 6) (norm 0 (prg.N 6)) (0) (List.drop 1 (List.drop 2 (spine L6_0))) st227 := rfl
                    conv at e228 =>
                      rhs
                      simp [Try.f6, N6, C6_15, C6_16, S6_8, L6_0, X6_8, X6_23, NS6_5, NS6_1, c119, c122, g123, c124, c132, c184, c185, hst227]
                    obtain ⟨st229, hst229, e228⟩ := name_it e228
                    refine Rn.fin e228 ?_
                    exact ok_law16_PartyWaits_l0 x1 x2 y k (iadd .i64 v6001_1 1) v6000_4.1 v6000_4.2.1 v6000_4.2.2.1 v6000_4.2.2.2 true (by intro h; cases h) st229 h (by simp [hst229, S6_8, NS6_16])
                  | false =>
                    have hl234 := hgv6000_4_1 rfl
                    simp only [hl234, List.length_nil, List.nil_append] at *
                    have e230 : execL TT (acall TT prg (0)) (prg.C 6) (norm 0 (prg.N 6)) (0) (List.drop 1 (List.drop 11 (spine (at_ Try.f6 [1, 1, 1, 1, 1, 0, 1, 4, 5, 1, 1, 0, 4])))) st225 = execL TT (acall TT prg (0)) (prg.C 6) (norm 0 (prg.N 6)) (0) (List.drop 1 (List.drop 11 (spine (at_ Try.f6 [1, 1, 1, 1, 1, 0, 1, 4, 5, 1, 1, 0, 4])))) st225 := rfl
                    conv at e230 =>
                      rhs
                      simp [Try.f6, N6, C6_15, C6_16, S6_8, L6_0, X6_8, X6_23, NS6_5, NS6_1, c119, c122, g123, c124, c132, c184, c185, hst225]
                    obtain ⟨st231, hst231, e230⟩ := name_it e230
                    refine Rn.fin e230 ?_
                    refine BlkQ.normal ?_
                    have e232 : execL TT (acall TT prg (0)) (prg.C 6) (norm 0 (prg.N 6)) (0) (List.drop 1 (List.drop 2 (spine L6_0))) st231 = execL TT (acall TT prg (0)) (prg.C 6) (norm 0 (prg.N 6)) (0) (List.drop 1 (List.drop 2 (spine L6_0))) st231 := rfl
                    conv at e232 =>
                      rhs
                      simp [Try.f6, N6, C6_15, C6_16, S6_8, L6_0, X6_8, X6_23, NS6_5, NS6_1, c119, c122, g123, c124, c132, c184, c185, hst231]
                    obtain ⟨st233, hst233, e232⟩ := name_it e232
                    refine Rn.fin e232 ?_
                    exact ok_law16_PartyWaits_l0 x1 x2 y k (iadd .i64 v6001_1 1) v6000_4.1 v6000_4.2.1 v6000_4.2.2.1 ([] : List ByteArray) false (fun _ => rfl) st233 h (by simp [hst233, S6_8, NS6_16])
                · simp only [Sum.elim_inl, Sum.elim_inr] at h
                  obtain ⟨rfl, q222⟩ := q222
                  refine BlkQ.ret ?_
                  refine BlkQ.ret ?_
                  obtain rfl := Option.some.inj h
                  exact ⟨rfl, q222⟩
        · rw [if_neg c122] at h
          replace c122 := eq_false_of_ne_true c122
          cases h
      · rw [if_neg c119] at h
        replace c119 := eq_false_of_ne_true c119
        have e235 : execL TT (acall TT prg (0)) (prg.C 6) (norm 0 (prg.N 6)) (0) (List.take 2 (spine L6_0)) st0 = execL TT (acall TT prg (0)) (prg.C 6) (norm 0 (prg.N 6)) (0) (List.take 2 (spine L6_0)) st0 := rfl
        conv at e235 =>
          rhs
          simp [Try.f6, N6, C6_15, C6_16, S6_8, L6_0, X6_8, X6_23, NS6_5, NS6_1, hst0, c119]
        obtain ⟨st236, hst236, e235⟩ := name_it e235
        refine Rn.stop 2 e235 (by simp) ?_
        obtain rfl := Option.some.inj h
        exact ⟨rfl, false, (fun _ => rfl), by simp [hst236, N6, norm_some, X6_8, NS6_1]⟩
theorem ok_law16_PartyWaits (k : Nat) (x1 : List ByteArray) (x2 : List Int) (r : Bool) (h : law16_PartyWaits k x1 x2 = some r) : CallR TT prg true 6 [(sl 1 (List.map e_str x1)), (sl 1 (List.map e_u8 x2))] [] (.bool r) [] := by
    unfold law16_PartyWaits at h
    refine CallR.of rfl rfl rfl rfl ?_
    obtain ⟨st0, hst0⟩ : ∃ s, s = begin [(sl 1 (List.map e_str x1)), (sl 1 (List.map e_u8 x2))] Try.f6.ntmps [] := ⟨_, rfl⟩
    rw [← hst0]
    by_cases c1 : ltI 110 (nI x1.length) = true
    · rw [if_pos c1] at h
      have alive_ok' := acall_mono TT prg (show 60 ≤ (60) by omega) alive_ok
      have e2 : execL TT (acall TT prg (60)) (prg.C 6) (norm 0 (prg.N 6)) (60) (List.take 6 (body Try.f6)) st0 = execL TT (acall TT prg (60)) (prg.C 6) (norm 0 (prg.N 6)) (60) (List.take 6 (body Try.f6)) st0 := rfl
      conv at e2 =>
        rhs
        simp [Try.f6, N6, C6_8, C6_15, C6_16, X6_8, X6_23, NS6_5, NS6_1, hst0, c1, alive_ok']
      obtain ⟨st3, hst3, e2⟩ := name_it e2
      refine Rn.stop 6 e2 (by simp) ?_
      obtain rfl := Option.some.inj h
      simp [Try.f6, c1, hst3]
    · rw [if_neg c1] at h
      replace c1 := eq_false_of_ne_true c1
      by_cases c4 : ltI 110 (nI x2.length) = true
      · rw [if_pos c4] at h
        have alive_ok' := acall_mono TT prg (show 60 ≤ (60) by omega) alive_ok
        have e5 : execL TT (acall TT prg (60)) (prg.C 6) (norm 0 (prg.N 6)) (60) (List.take 6 (body Try.f6)) st0 = execL TT (acall TT prg (60)) (prg.C 6) (norm 0 (prg.N 6)) (60) (List.take 6 (body Try.f6)) st0 := rfl
        conv at e5 =>
          rhs
          simp [Try.f6, N6, C6_8, C6_15, C6_16, X6_8, X6_23, NS6_5, NS6_1, hst0, c1, c4, alive_ok']
        obtain ⟨st6, hst6, e5⟩ := name_it e5
        refine Rn.stop 6 e5 (by simp) ?_
        obtain rfl := Option.some.inj h
        simp [Try.f6, c1, c4, hst6]
      · rw [if_neg c4] at h
        replace c4 := eq_false_of_ne_true c4
        have alive_ok' := acall_mono TT prg (show 60 ≤ (60) by omega) alive_ok
        have e7 : execL TT (acall TT prg (60)) (prg.C 6) (norm 0 (prg.N 6)) (60) (List.take 8 (body Try.f6)) st0 = execL TT (acall TT prg (60)) (prg.C 6) (norm 0 (prg.N 6)) (60) (List.take 8 (body Try.f6)) st0 := rfl
        conv at e7 =>
          rhs
          simp [Try.f6, N6, C6_8, C6_15, C6_16, X6_8, X6_23, NS6_5, NS6_1, hst0, c1, c4, alive_ok']
        obtain ⟨st8, hst8, e7⟩ := name_it e7
        refine Rn.seg 8 e7 ?_
        rw [show (List.drop 8 (body Try.f6)) = .block 0 (.loop L6_0) :: (List.drop 1 (List.drop 8 (body Try.f6))) by kernel_rfl]
        refine Rn.block ?_
        obtain ⟨x3, e9, h⟩ := Option.bind_eq_some_iff.1 h
        refine Rn.mono (ok_law16_PartyWaits_l0 x1 x2 x3 k 0 0 [] 100 [] false (fun _ => rfl) st8 e9 (by simp [hst8, S6_8, NS6_16])) ?_
        intro x_12 st11 q10
        rcases x3 with x4 | x4
        · simp only [Sum.elim_inl, Sum.elim_inr] at h
          obtain ⟨rfl, gx4_1, hgx4_1, q10⟩ := q10
          obtain ⟨st13, hst13, q10⟩ := name_it1 q10
          refine BlkQ.exit q10 ?_
          cases gx4_1 with
          | true =>
            have e14 : execL TT (acall TT prg (0)) (prg.C 6) (norm 0 (prg.N 6)) (0) (List.drop 1 (List.drop 8 (body Try.f6))) st13 = execL TT (acall TT prg (0)) (prg.C 6) (norm 0 (prg.N 6)) (0) (List.drop 1 (List.drop 8 (body Try.f6))) st13 := rfl
            conv at e14 =>
              rhs
              simp [Try.f6, N6, C6_8, C6_15, C6_16, X6_8, X6_23, NS6_5, NS6_1, c1, c4, hst13]
            obtain ⟨st15, hst15, e14⟩ := name_it e14
            refine Rn.fin e14 ?_
            obtain rfl := Option.some.inj h
            simp [Try.f6, c1, c4, hst15]
          | false =>
            have hl18 := hgx4_1 rfl
            simp only [hl18, List.length_nil, List.nil_append] at *
            have e16 : execL TT (acall TT prg (0)) (prg.C 6) (norm 0 (prg.N 6)) (0) (List.drop 1 (List.drop 8 (body Try.f6))) st13 = execL TT (acall TT prg (0)) (prg.C 6) (norm 0 (prg.N 6)) (0) (List.drop 1 (List.drop 8 (body Try.f6))) st13 := rfl
            conv at e16 =>
              rhs
              simp [Try.f6, N6, C6_8, C6_15, C6_16, X6_8, X6_23, NS6_5, NS6_1, c1, c4, hst13]
            obtain ⟨st17, hst17, e16⟩ := name_it e16
            refine Rn.fin e16 ?_
            obtain rfl := Option.some.inj h
            simp [Try.f6, c1, c4, hst17]
        · simp only [Sum.elim_inl, Sum.elim_inr] at h
          obtain ⟨rfl, q10⟩ := q10
          refine BlkQ.ret ?_
          obtain rfl := Option.some.inj h
          exact q10
end Go.Ws
