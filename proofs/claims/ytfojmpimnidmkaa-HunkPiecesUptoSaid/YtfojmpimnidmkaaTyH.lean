/-
  Facts of the types, the functions' names.
-/
import Derived.Test.YtfojmpimnidmkaaGc
import Derived.Test.YtfojmpimnidmkaaProg
namespace Go.Proofs.Ytfojmpimnidmkaa
open Go Go.Eng
theorem mixed : Try.prog.follows .mixedOrders = true := by kernel_rfl
theorem bd33 : buildable Try.prog 33 = true := by kernel_rfl
theorem bd42 : buildable Try.prog 42 = true := by kernel_rfl
theorem bd44 : buildable Try.prog 44 = true := by kernel_rfl
theorem bd49 : buildable Try.prog 49 = true := by kernel_rfl
theorem bd52 : buildable Try.prog 52 = true := by kernel_rfl
theorem bd59 : buildable Try.prog 59 = true := by kernel_rfl
theorem fo33_0 : fOff Try.prog 33 0 = some 0 := by kernel_rfl
theorem fo33_1 : fOff Try.prog 33 1 = some 1 := by kernel_rfl
theorem fo33_2 : fOff Try.prog 33 2 = some 2 := by kernel_rfl
theorem fo42_0 : fOff Try.prog 42 0 = some 0 := by kernel_rfl
theorem fo42_1 : fOff Try.prog 42 1 = some 1 := by kernel_rfl
theorem fo44_0 : fOff Try.prog 44 0 = some 0 := by kernel_rfl
theorem fo44_1 : fOff Try.prog 44 1 = some 1 := by kernel_rfl
theorem fo44_2 : fOff Try.prog 44 2 = some 2 := by kernel_rfl
theorem fo44_3 : fOff Try.prog 44 3 = some 3 := by kernel_rfl
theorem fo52_0 : fOff Try.prog 52 0 = some 0 := by kernel_rfl
theorem fo52_1 : fOff Try.prog 52 1 = some 1 := by kernel_rfl
theorem kt22 : kindT Try.prog 22 = some none := by kernel_rfl
theorem kt3 : kindT Try.prog 3 = some none := by kernel_rfl
theorem kt42 : kindT Try.prog 42 = some (some 2) := by kernel_rfl
theorem kt44 : kindT Try.prog 44 = some (some 4) := by kernel_rfl
theorem kt50 : kindT Try.prog 50 = some none := by kernel_rfl
theorem kt52 : kindT Try.prog 52 = some (some 2) := by kernel_rfl
theorem kt54 : kindT Try.prog 54 = some none := by kernel_rfl
theorem kt61 : kindT Try.prog 61 = some none := by kernel_rfl
theorem kt9 : kindT Try.prog 9 = some none := by kernel_rfl
theorem pt33_0 : partT Try.prog 33 0 = some (0, 1) := by kernel_rfl
theorem pt33_1 : partT Try.prog 33 1 = some (1, 1) := by kernel_rfl
theorem pt33_2 : partT Try.prog 33 2 = some (2, 1) := by kernel_rfl
theorem pt42_0 : partT Try.prog 42 0 = some (0, 1) := by kernel_rfl
theorem pt42_1 : partT Try.prog 42 1 = some (1, 1) := by kernel_rfl
theorem pt44_0 : partT Try.prog 44 0 = some (0, 1) := by kernel_rfl
theorem pt44_1 : partT Try.prog 44 1 = some (1, 1) := by kernel_rfl
theorem pt44_2 : partT Try.prog 44 2 = some (2, 1) := by kernel_rfl
theorem pt44_3 : partT Try.prog 44 3 = some (3, 1) := by kernel_rfl
theorem pt49_0 : partT Try.prog 49 0 = some (0, 1) := by kernel_rfl
theorem pt49_1 : partT Try.prog 49 1 = some (1, 1) := by kernel_rfl
theorem pt49_2 : partT Try.prog 49 2 = some (2, 1) := by kernel_rfl
theorem pt49_3 : partT Try.prog 49 3 = some (3, 1) := by kernel_rfl
theorem pt52_0 : partT Try.prog 52 0 = some (0, 1) := by kernel_rfl
theorem pt52_1 : partT Try.prog 52 1 = some (1, 1) := by kernel_rfl
theorem pt59_0 : partT Try.prog 59 0 = some (0, 1) := by kernel_rfl
theorem pt59_1 : partT Try.prog 59 1 = some (1, 1) := by kernel_rfl
theorem se22 : seOf Try.prog 22 = some (9, 1, 16, #[.string ByteArray.empty]) := by kernel_rfl
theorem se23 : seOf Try.prog 23 = some (33, 3, 56, #[.int .i64 0, .slice none 0 0, .slice none 0 0]) := by kernel_rfl
theorem se31 : seOf Try.prog 31 = some (22, 1, 24, #[.slice none 0 0]) := by kernel_rfl
theorem se37 : seOf Try.prog 37 = some (42, 2, 16, #[.int .i64 0, .int .i64 0]) := by kernel_rfl
theorem se40 : seOf Try.prog 40 = some (44, 4, 32, #[.int .i64 0, .int .i64 0, .int .i64 0, .int .i64 0]) := by kernel_rfl
theorem se47 : seOf Try.prog 47 = some (49, 4, 32, #[.int .i64 0, .int .i64 0, .int .i64 0, .int .i64 0]) := by kernel_rfl
theorem se50 : seOf Try.prog 50 = some (54, 1, 2, #[.int .i16 0]) := by kernel_rfl
theorem se56 : seOf Try.prog 56 = some (59, 2, 16, #[.int .i64 0, .int .i64 0]) := by kernel_rfl
theorem se61 : seOf Try.prog 61 = some (3, 1, 8, #[.int .i64 0]) := by kernel_rfl
theorem se63 : seOf Try.prog 63 = some (61, 1, 24, #[.slice none 0 0]) := by kernel_rfl
theorem st9 : uStr Try.prog 9 = true := by kernel_rfl
theorem ua49 : uArr Try.prog 49 = some (4, 1) := by kernel_rfl
theorem ua59 : uArr Try.prog 59 = some (2, 1) := by kernel_rfl
theorem us22 : uSlice Try.prog 22 = some (9, 1) := by kernel_rfl
theorem us23 : uSlice Try.prog 23 = some (33, 3) := by kernel_rfl
theorem us31 : uSlice Try.prog 31 = some (22, 1) := by kernel_rfl
theorem us37 : uSlice Try.prog 37 = some (42, 2) := by kernel_rfl
theorem us40 : uSlice Try.prog 40 = some (44, 4) := by kernel_rfl
theorem us47 : uSlice Try.prog 47 = some (49, 4) := by kernel_rfl
theorem us50 : uSlice Try.prog 50 = some (54, 1) := by kernel_rfl
theorem us56 : uSlice Try.prog 56 = some (59, 2) := by kernel_rfl
theorem us61 : uSlice Try.prog 61 = some (3, 1) := by kernel_rfl
theorem us63 : uSlice Try.prog 63 = some (61, 1) := by kernel_rfl
theorem zt33 : zeroT Try.prog 33 = some #[.int .i64 0, .slice none 0 0, .slice none 0 0] := by kernel_rfl
theorem zt42 : zeroT Try.prog 42 = some #[.int .i64 0, .int .i64 0] := by kernel_rfl
theorem zt44 : zeroT Try.prog 44 = some #[.int .i64 0, .int .i64 0, .int .i64 0, .int .i64 0] := by kernel_rfl
theorem zt49 : zeroT Try.prog 49 = some #[.int .i64 0, .int .i64 0, .int .i64 0, .int .i64 0] := by kernel_rfl
theorem zt52 : zeroT Try.prog 52 = some #[.int .i64 0, .slice none 0 0] := by kernel_rfl
theorem zt59 : zeroT Try.prog 59 = some #[.int .i64 0, .int .i64 0] := by kernel_rfl
theorem cl4 : callable Try.prog 4 = true := by kernel_rfl
theorem cl5 : callable Try.prog 5 = true := by kernel_rfl
theorem cl6 : callable Try.prog 6 = true := by kernel_rfl
theorem cl7 : callable Try.prog 7 = true := by kernel_rfl
theorem cl8 : callable Try.prog 8 = true := by kernel_rfl
theorem cl9 : callable Try.prog 9 = true := by kernel_rfl
theorem cl10 : callable Try.prog 10 = true := by kernel_rfl
theorem cl11 : callable Try.prog 11 = true := by kernel_rfl
theorem cl12 : callable Try.prog 12 = true := by kernel_rfl
theorem cl13 : callable Try.prog 13 = true := by kernel_rfl
theorem cl14 : callable Try.prog 14 = true := by kernel_rfl
theorem cl15 : callable Try.prog 15 = true := by kernel_rfl
theorem cl16 : callable Try.prog 16 = true := by kernel_rfl
theorem cl17 : callable Try.prog 17 = true := by kernel_rfl
theorem cl18 : callable Try.prog 18 = true := by kernel_rfl
theorem cl19 : callable Try.prog 19 = true := by kernel_rfl
theorem cl20 : callable Try.prog 20 = true := by kernel_rfl
attribute [push_cast] ev_tmp ev_const ev_global ev_func evs_nil evs_cons stp_some stp_none dsts_nil dsts_cons argsE_nil argsE_cons intBin_add intBin_sub intBin_mul intBin_quo intBin_rem intBin_and intBin_or intBin_xor intBin_andNot intBin_eql intBin_neq intBin_lss intBin_leq intBin_gtr intBin_geq intBin_shl intBin_shr strBin_add strBin_eql strBin_neq strBin_lss strBin_leq strBin_gtr strBin_geq pureBin_int pureBin_str pureBin_beq pureBin_bne pureBin_peq pureBin_pne pureBin_seq pureBin_sne pureBin_agg effEq_eql effEq_neq pureUn_not pureUn_neg pureUn_xor pureConv_int pureConv_str pureField_eq pureIndexAddr_s pureIndexAddr_p pureIndex_s oInt_none oInt_some pureSlice_str pureSlice_sl pureB_len pureB_lens pureB_cap pureB_max pureB_min pureB_app pureB_copy po_move po_assign po_pick po_bin po_un po_conv po_field po_extract po_faddr po_iaddr po_index po_slice po_nil po_builtin po_call po_load po_store po_alloc po_box po_build po_buildS po_makeS eo_load eo_store eo_build eo_buildS eo_makeS eo_app eo_call eo_bin eq_load eq_build eq_call eq_bin parts_nil parts_cons outG_none outG_some dstOk_none dstOk_some out_eq outR_eq outOp_eq outQ_eq imm_load immQ_load imm_alloc imm_box imm_store imm_build imm_call imm_bin immQ_build immQ_call immQ_bin imm_buildS imm_makeS v2_nil v2_cons vq_nil vq_cons undef_eq
attribute [push_cast] List.take_succ_cons List.take_zero List.drop_succ_cons List.drop_zero true_and and_true Option.isSome_some List.getElem?_cons_zero List.getElem?_cons_succ List.length_cons List.length_nil cond_true cond_false Int.toNat_natCast Nat.mul_one Nat.add_zero Nat.zero_add Addr.add_lit bne_self_eq_false beq_self_eq_true Bool.not_true Bool.not_false List.size_toArray Array.getD_eq_getD_getElem? List.getElem?_toArray Option.getD_some decide_true decide_false eq_self Bool.true_beq Bool.false_beq List.getD_cons_zero List.getD_cons_succ List.map_cons List.map_nil List.set_cons_zero List.set_cons_succ List.replicate_zero List.toList_toArray List.all_toArray List.all_cons List.all_nil Bool.and_self Bool.and_true Bool.true_and Bool.and_false Bool.false_and List.length_map List.length_append List.length_replicate List.length_set List.cons_append List.nil_append cond_triv Option.isSome_some Option.isSome_none beq_true beq_false Bool.not_false Option.map_some Bool.true_or Bool.false_or Bool.or_true Bool.or_false Bool.false_xor Bool.true_xor and_self beq_self_eq_true fv_default List.flatMap_cons List.flatMap_nil List.append_nil
attribute [push_cast] lk_lo zS zM zX zU hev_tmp hev_const hev_global hev_func hevs_nil hevs_cons leaf_v leaf_none leaf_lst leaf_own leaf_ptr leaf_elt leaf_agg leaf_tup leaf_vw leaf_junk hPure_some hPure_none hop_eq heff_move heff_assign heff_pick heff_extract heff_field heff_faddr heff_nilc heff_iaddr heff_slice heff_load heff_store heff_alloc heff_box heff_build heff_buildS heff_makeS heff_len heff_app heff_callf heff_eql heff_neq heff_conv hMove_eq hPick_eq hExtract_eq hField_one hField_sub hFAddr_ptr hFAddr_elt hNil_ptr hNil_elt hIAddr_own hIAddr_lst hIAddr_ptr hIAddr_elt hIAddrR_eq hIAddrL_eq hIAddrP_eq hIAddrE_eq hLen_vw hSlice_own hSlice_vw hSliceR_eq hSliceV_eq rlen_sl hIAddr_vw hIAddrV_eq newsOf_vw hcells_vw hone_vw hkill_vw hren_vw hsub_vw ownIds_vw ownCell_vw hLen_own hLen_lst hLenR_hl hIAddrR_hl hLenR_eq hSlice_eq hSliceL_eq hLoad_ptr hLoad_elt hLoadR_sl hLoadR_sla hLoadR_bx hLoadR_bxa hLoadR_hl hLoadR_hla hStoreR_hl hStoreH_one hStoreH_agg hLoadE_one hLoadE_agg hStore_eq hStoreR_sl hStoreR_bx hStoreS_one hStoreS_agg hStoreB_one hStoreB_agg hAlloc_eq hBox_eq hBoxC_eq partsH_nil partsH_cons hfill_nil hfill_cons hBuild_eq hBuildF_eq hlit_nil hlit_cons hBuildS_eq allF_nil allF_cons hlitH_nil hlitH_cons hkl_eq hBuildSE_t hBuildSE_f hBuildSH_eq hBuildSF_eq hMake_eq newsOf_own newsOf_lst newsOf_nil hAppend_own newsH_own newsH_lst newsH_nil arr2_eq newsA_t newsA_f newsS_str hAppend_nil hAppR_hl hAppH_eq hAppR_eq hAppN_eq leafs_nil leafs_cons hEq_eq hEq_ptr hEq_elt hConv_str hConv_own hConv_lst hConvR_eq hConvL_eq bytesH_nil bytesH_cons hEqL_eq hCall_eq ats0_eq oneAll_eq hf_v hf_own hf_vw hf_ptr hf_lst hfs_nil hfs_cons fone_v fone_lst hone_v hone_lst hone_own hone_ptr fh_v fh_lst one_int hcellv_int one_bool hcellv_bool one_str hcellv_str one_slice hcellv_slice one_ptr hcellv_ptr hcells_agg hcells_lst hcells_own hcells_ptr splice_eq kill_eq row_eq set_some set_none rep_eq hrep_nil hrep_cons ekill_nil ekill_cons skill_nil skill_cons rkill_sl rkill_hl rkill_bx hkill_v hren_v hsub_v hkill_lst hren_lst hsub_lst hkill_elt hren_elt hsub_elt hkill_junk hren_junk hsub_junk hkill_own hkill_ptr hkill_agg hkill_tup hren_own hren_ptr hren_agg hren_tup hsub_own hsub_ptr hsub_agg hsub_tup rren_sl rren_hl rren_bx rsub_sl rsub_hl rsub_bx only_eq eight_eq sh_eq adds_eq radds_nil radds_cons rest_eq esub_nil esub_cons ssub_nil ssub_cons sset_nil sset_cons hG_none hG_some hGv_bool hGv_tup hgo_go hgo_call hgo_eqn hgo_bytes hgo_eq hgo1_eq hpre_move hpre_assign hpre_pick hpre_extract hpre_field hpre_faddr hpre_nilc hpre_iaddr hpre_slice hpre_load hpre_build hpre_bin hpre_un hpre_conv hpre_index hpre_call hpre_alloc hpre_box hpre_make hpre_store hpre_buildS ownsS_eq ownsR_sl ownsR_bx ownsP_eq ownIds_own ownIds_v ownIds_lst ownIds_agg ownCell_own ownCell_v ownCell_lst restAll_nil restAll_cons restOne_eq ownsR_hl hskip_eq hstep_yes hstep_no hstep_ask hv2_nil hv2_cons hgoq_go hgoq_call hgoq_eqn hgoq_eq hstepq_yes hstepq_no hstepq_ask hvq_nil hvq_cons slotX_tmp slotX_const slotX_global slotX_func slotsL_nil slotsL_cons slotsP_nil slotsP_cons slotO_some slotO_none slotsOf_move slotsOf_assign slotsOf_nilc slotsOf_pick slotsOf_extract slotsOf_field slotsOf_faddr slotsOf_load slotsOf_un slotsOf_conv slotsOf_iaddr slotsOf_index slotsOf_slice slotsOf_bin slotsOf_build slotsOf_buildS slotsOf_makeS slotsOf_call slotG_none slotG_some pickE_nil pickE_cons plainE_nil plainE_v plainE_lst plainE_agg hmade_eq made_buildS made_makeS quiet_buildS quiet_makeS hgor_go hgor_call hgor_eqn hgor_eq hstepr_yes hstepr_no hstepr_ask hvr_nil hvr_cons idOf_some idOf_none quiet_move quiet_assign quiet_pick quiet_extract quiet_field quiet_faddr quiet_nilc quiet_iaddr quiet_slice quiet_load quiet_build quiet_bin quiet_un quiet_conv quiet_index quiet_len quiet_min argsH_nil argsH_cons heff_index hIndexA_agg hIndexA_aggK heff_copy hCopy_own hCopy_vw hCopyR_own hCopyR_vw hCopyN_some slotsC_value slotsC_builtin heff_callt fnH_v hCallV_some
 nthO_nil nthO_cons sh2_eq inL_nil inL_cons isSl_none isSl_sl isSl_bx isSl_hl isBx_hl dark_hl flag_hl flag_ohl isBx_none isBx_sl isBx_t isBx_f turned_eq gone_eq skillG_nil skillG_cons oldRow_eq dark_sl dark_bx flag_none flag_sl flag_bx flag_osl dpick_nil dpick_cons swp_nil swp_cons swap_eq cond_true' ltT ltF leT leF eqT eqF getD_map wr64 toNat_succ toNat_add
attribute [push_cast] bd33 bd42 bd44 bd49 bd52 bd59 fo33_0 fo33_1 fo33_2 fo42_0 fo42_1 fo44_0 fo44_1 fo44_2 fo44_3 fo52_0 fo52_1 kt22 kt3 kt42 kt44 kt50 kt52 kt54 kt61 kt9 pt33_0 pt33_1 pt33_2 pt42_0 pt42_1 pt44_0 pt44_1 pt44_2 pt44_3 pt49_0 pt49_1 pt49_2 pt49_3 pt52_0 pt52_1 pt59_0 pt59_1 se22 se23 se31 se37 se40 se47 se50 se56 se61 se63 st9 ua49 ua59 us22 us23 us31 us37 us40 us47 us50 us56 us61 us63 zt33 zt42 zt44 zt49 zt52 zt59
attribute [push_cast] ev_tmp ev_const ev_global ev_func evs_nil evs_cons stp_some stp_none dsts_nil dsts_cons argsE_nil argsE_cons intBin_add intBin_sub intBin_mul intBin_quo intBin_rem intBin_and intBin_or intBin_xor intBin_andNot intBin_eql intBin_neq intBin_lss intBin_leq intBin_gtr intBin_geq intBin_shl intBin_shr strBin_add strBin_eql strBin_neq strBin_lss strBin_leq strBin_gtr strBin_geq pureBin_int pureBin_str pureBin_beq pureBin_bne pureBin_peq pureBin_pne pureBin_seq pureBin_sne pureBin_agg effEq_eql effEq_neq pureUn_not pureUn_neg pureUn_xor pureConv_int pureConv_str pureField_eq pureIndexAddr_s pureIndexAddr_p pureIndex_s oInt_none oInt_some pureSlice_str pureSlice_sl pureB_len pureB_lens pureB_cap pureB_max pureB_min pureB_app pureB_copy po_move po_assign po_pick po_bin po_un po_conv po_field po_extract po_faddr po_iaddr po_index po_slice po_nil po_builtin po_call po_load po_store po_alloc po_box po_build po_buildS po_makeS eo_load eo_store eo_build eo_buildS eo_makeS eo_app eo_call eo_bin eq_load eq_build eq_call eq_bin parts_nil parts_cons outG_none outG_some dstOk_none dstOk_some out_eq outR_eq outOp_eq outQ_eq imm_load immQ_load imm_alloc imm_box imm_store imm_build imm_call imm_bin immQ_build immQ_call immQ_bin imm_buildS imm_makeS v2_nil v2_cons vq_nil vq_cons undef_eq
attribute [push_cast] List.take_succ_cons List.take_zero List.drop_succ_cons List.drop_zero true_and and_true Option.isSome_some List.getElem?_cons_zero List.getElem?_cons_succ List.length_cons List.length_nil cond_true cond_false Int.toNat_natCast Nat.mul_one Nat.add_zero Nat.zero_add Addr.add_lit bne_self_eq_false beq_self_eq_true Bool.not_true Bool.not_false List.size_toArray Array.getD_eq_getD_getElem? List.getElem?_toArray Option.getD_some decide_true decide_false eq_self Bool.true_beq Bool.false_beq List.getD_cons_zero List.getD_cons_succ List.map_cons List.map_nil List.set_cons_zero List.set_cons_succ List.replicate_zero List.toList_toArray List.all_toArray List.all_cons List.all_nil Bool.and_self Bool.and_true Bool.true_and Bool.and_false Bool.false_and List.length_map List.length_append List.length_replicate List.length_set List.cons_append List.nil_append cond_triv Option.isSome_some Option.isSome_none beq_true beq_false Bool.not_false Option.map_some Bool.true_or Bool.false_or Bool.or_true Bool.or_false Bool.false_xor Bool.true_xor and_self beq_self_eq_true fv_default List.flatMap_cons List.flatMap_nil List.append_nil
attribute [push_cast] lk_lo zS zM zX zU hev_tmp hev_const hev_global hev_func hevs_nil hevs_cons leaf_v leaf_none leaf_lst leaf_own leaf_ptr leaf_elt leaf_agg leaf_tup leaf_vw leaf_junk hPure_some hPure_none hop_eq heff_move heff_assign heff_pick heff_extract heff_field heff_faddr heff_nilc heff_iaddr heff_slice heff_load heff_store heff_alloc heff_box heff_build heff_buildS heff_makeS heff_len heff_app heff_callf heff_eql heff_neq heff_conv hMove_eq hPick_eq hExtract_eq hField_one hField_sub hFAddr_ptr hFAddr_elt hNil_ptr hNil_elt hIAddr_own hIAddr_lst hIAddr_ptr hIAddr_elt hIAddrR_eq hIAddrL_eq hIAddrP_eq hIAddrE_eq hLen_vw hSlice_own hSlice_vw hSliceR_eq hSliceV_eq rlen_sl hIAddr_vw hIAddrV_eq newsOf_vw hcells_vw hone_vw hkill_vw hren_vw hsub_vw ownIds_vw ownCell_vw hLen_own hLen_lst hLenR_hl hIAddrR_hl hLenR_eq hSlice_eq hSliceL_eq hLoad_ptr hLoad_elt hLoadR_sl hLoadR_sla hLoadR_bx hLoadR_bxa hLoadR_hl hLoadR_hla hStoreR_hl hStoreH_one hStoreH_agg hLoadE_one hLoadE_agg hStore_eq hStoreR_sl hStoreR_bx hStoreS_one hStoreS_agg hStoreB_one hStoreB_agg hAlloc_eq hBox_eq hBoxC_eq partsH_nil partsH_cons hfill_nil hfill_cons hBuild_eq hBuildF_eq hlit_nil hlit_cons hBuildS_eq allF_nil allF_cons hlitH_nil hlitH_cons hkl_eq hBuildSE_t hBuildSE_f hBuildSH_eq hBuildSF_eq hMake_eq newsOf_own newsOf_lst newsOf_nil hAppend_own newsH_own newsH_lst newsH_nil arr2_eq newsA_t newsA_f newsS_str hAppend_nil hAppR_hl hAppH_eq hAppR_eq hAppN_eq leafs_nil leafs_cons hEq_eq hEq_ptr hEq_elt hConv_str hConv_own hConv_lst hConvR_eq hConvL_eq bytesH_nil bytesH_cons hEqL_eq hCall_eq ats0_eq oneAll_eq hf_v hf_own hf_vw hf_ptr hf_lst hfs_nil hfs_cons fone_v fone_lst hone_v hone_lst hone_own hone_ptr fh_v fh_lst one_int hcellv_int one_bool hcellv_bool one_str hcellv_str one_slice hcellv_slice one_ptr hcellv_ptr hcells_agg hcells_lst hcells_own hcells_ptr splice_eq kill_eq row_eq set_some set_none rep_eq hrep_nil hrep_cons ekill_nil ekill_cons skill_nil skill_cons rkill_sl rkill_hl rkill_bx hkill_v hren_v hsub_v hkill_lst hren_lst hsub_lst hkill_elt hren_elt hsub_elt hkill_junk hren_junk hsub_junk hkill_own hkill_ptr hkill_agg hkill_tup hren_own hren_ptr hren_agg hren_tup hsub_own hsub_ptr hsub_agg hsub_tup rren_sl rren_hl rren_bx rsub_sl rsub_hl rsub_bx only_eq eight_eq sh_eq adds_eq radds_nil radds_cons rest_eq esub_nil esub_cons ssub_nil ssub_cons sset_nil sset_cons hG_none hG_some hGv_bool hGv_tup hgo_go hgo_call hgo_eqn hgo_bytes hgo_eq hgo1_eq hpre_move hpre_assign hpre_pick hpre_extract hpre_field hpre_faddr hpre_nilc hpre_iaddr hpre_slice hpre_load hpre_build hpre_bin hpre_un hpre_conv hpre_index hpre_call hpre_alloc hpre_box hpre_make hpre_store hpre_buildS ownsS_eq ownsR_sl ownsR_bx ownsP_eq ownIds_own ownIds_v ownIds_lst ownIds_agg ownCell_own ownCell_v ownCell_lst restAll_nil restAll_cons restOne_eq ownsR_hl hskip_eq hstep_yes hstep_no hstep_ask hv2_nil hv2_cons hgoq_go hgoq_call hgoq_eqn hgoq_eq hstepq_yes hstepq_no hstepq_ask hvq_nil hvq_cons slotX_tmp slotX_const slotX_global slotX_func slotsL_nil slotsL_cons slotsP_nil slotsP_cons slotO_some slotO_none slotsOf_move slotsOf_assign slotsOf_nilc slotsOf_pick slotsOf_extract slotsOf_field slotsOf_faddr slotsOf_load slotsOf_un slotsOf_conv slotsOf_iaddr slotsOf_index slotsOf_slice slotsOf_bin slotsOf_build slotsOf_buildS slotsOf_makeS slotsOf_call slotG_none slotG_some pickE_nil pickE_cons plainE_nil plainE_v plainE_lst plainE_agg hmade_eq made_buildS made_makeS quiet_buildS quiet_makeS hgor_go hgor_call hgor_eqn hgor_eq hstepr_yes hstepr_no hstepr_ask hvr_nil hvr_cons idOf_some idOf_none quiet_move quiet_assign quiet_pick quiet_extract quiet_field quiet_faddr quiet_nilc quiet_iaddr quiet_slice quiet_load quiet_build quiet_bin quiet_un quiet_conv quiet_index quiet_len quiet_min argsH_nil argsH_cons heff_index hIndexA_agg hIndexA_aggK heff_copy hCopy_own hCopy_vw hCopyR_own hCopyR_vw hCopyN_some slotsC_value slotsC_builtin heff_callt fnH_v hCallV_some
 nthO_nil nthO_cons sh2_eq inL_nil inL_cons isSl_none isSl_sl isSl_bx isSl_hl isBx_hl dark_hl flag_hl flag_ohl isBx_none isBx_sl isBx_t isBx_f turned_eq gone_eq skillG_nil skillG_cons oldRow_eq dark_sl dark_bx flag_none flag_sl flag_bx flag_osl dpick_nil dpick_cons swp_nil swp_cons swap_eq cond_true' ltT ltF leT leF eqT eqF getD_map wr64 toNat_succ toNat_add
attribute [push_cast] bd33 bd42 bd44 bd49 bd52 bd59 fo33_0 fo33_1 fo33_2 fo42_0 fo42_1 fo44_0 fo44_1 fo44_2 fo44_3 fo52_0 fo52_1 kt22 kt3 kt42 kt44 kt50 kt52 kt54 kt61 kt9 pt33_0 pt33_1 pt33_2 pt42_0 pt42_1 pt44_0 pt44_1 pt44_2 pt44_3 pt49_0 pt49_1 pt49_2 pt49_3 pt52_0 pt52_1 pt59_0 pt59_1 se22 se23 se31 se37 se40 se47 se50 se56 se61 se63 st9 ua49 ua59 us22 us23 us31 us37 us40 us47 us50 us56 us61 us63 zt33 zt42 zt44 zt49 zt52 zt59
end Go.Proofs.Ytfojmpimnidmkaa
