/-
  Facts of the types, the functions' names.
-/
import Derived.Test.YtojolcpblacjjaaDoorGc
import Derived.Test.YtojolcpblacjjaaDoorProg
namespace Go.Proofs.YtojolcpblacjjaaDoor
open Go Go.Eng
theorem mixed : Tryd.prog.follows .mixedOrders = true := by kernel_rfl
theorem bd101 : buildable Tryd.prog 101 = true := by kernel_rfl
theorem bd102 : buildable Tryd.prog 102 = true := by kernel_rfl
theorem bd45 : buildable Tryd.prog 45 = true := by kernel_rfl
theorem bd47 : buildable Tryd.prog 47 = true := by kernel_rfl
theorem cb9_66 : convB Tryd.prog 9 66 = true := by kernel_rfl
theorem fo101_0 : fOff Tryd.prog 101 0 = some 0 := by kernel_rfl
theorem fo101_1 : fOff Tryd.prog 101 1 = some 1 := by kernel_rfl
theorem fo45_0 : fOff Tryd.prog 45 0 = some 0 := by kernel_rfl
theorem fo45_1 : fOff Tryd.prog 45 1 = some 1 := by kernel_rfl
theorem fo45_2 : fOff Tryd.prog 45 2 = some 2 := by kernel_rfl
theorem fo45_3 : fOff Tryd.prog 45 3 = some 3 := by kernel_rfl
theorem fo45_4 : fOff Tryd.prog 45 4 = some 4 := by kernel_rfl
theorem fo45_5 : fOff Tryd.prog 45 5 = some 5 := by kernel_rfl
theorem fo47_0 : fOff Tryd.prog 47 0 = some 0 := by kernel_rfl
theorem fo47_1 : fOff Tryd.prog 47 1 = some 1 := by kernel_rfl
theorem fo47_2 : fOff Tryd.prog 47 2 = some 2 := by kernel_rfl
theorem fo47_3 : fOff Tryd.prog 47 3 = some 3 := by kernel_rfl
theorem fo47_4 : fOff Tryd.prog 47 4 = some 4 := by kernel_rfl
theorem fo47_5 : fOff Tryd.prog 47 5 = some 5 := by kernel_rfl
theorem fp47_0 : fPart Tryd.prog 47 0 = some (0, none) := by kernel_rfl
theorem fp47_5 : fPart Tryd.prog 47 5 = some (5, none) := by kernel_rfl
theorem it21 : uInt Tryd.prog 21 = some .i32 := by kernel_rfl
theorem it3 : uInt Tryd.prog 3 = some .i64 := by kernel_rfl
theorem it5 : uInt Tryd.prog 5 = some .u8 := by kernel_rfl
theorem it57 : uInt Tryd.prog 57 = some .u64 := by kernel_rfl
theorem it65 : uInt Tryd.prog 65 = some .u64 := by kernel_rfl
theorem it82 : uInt Tryd.prog 82 = some .u32 := by kernel_rfl
theorem kt101 : kindT Tryd.prog 101 = some (some 2) := by kernel_rfl
theorem kt102 : kindT Tryd.prog 102 = some (some 32) := by kernel_rfl
theorem kt22 : kindT Tryd.prog 22 = some none := by kernel_rfl
theorem kt3 : kindT Tryd.prog 3 = some none := by kernel_rfl
theorem kt4 : kindT Tryd.prog 4 = some none := by kernel_rfl
theorem kt42 : kindT Tryd.prog 42 = some none := by kernel_rfl
theorem kt43 : kindT Tryd.prog 43 = some none := by kernel_rfl
theorem kt47 : kindT Tryd.prog 47 = some (some 6) := by kernel_rfl
theorem kt5 : kindT Tryd.prog 5 = some none := by kernel_rfl
theorem kt9 : kindT Tryd.prog 9 = some none := by kernel_rfl
theorem pp23 : uPtr Tryd.prog 23 = true := by kernel_rfl
theorem pt101_0 : partT Tryd.prog 101 0 = some (0, 1) := by kernel_rfl
theorem pt101_1 : partT Tryd.prog 101 1 = some (1, 1) := by kernel_rfl
theorem pt102_0 : partT Tryd.prog 102 0 = some (0, 2) := by kernel_rfl
theorem pt102_1 : partT Tryd.prog 102 1 = some (2, 2) := by kernel_rfl
theorem pt102_2 : partT Tryd.prog 102 2 = some (4, 2) := by kernel_rfl
theorem pt102_3 : partT Tryd.prog 102 3 = some (6, 2) := by kernel_rfl
theorem pt102_4 : partT Tryd.prog 102 4 = some (8, 2) := by kernel_rfl
theorem pt45_0 : partT Tryd.prog 45 0 = some (0, 1) := by kernel_rfl
theorem pt45_1 : partT Tryd.prog 45 1 = some (1, 1) := by kernel_rfl
theorem pt45_4 : partT Tryd.prog 45 4 = some (4, 1) := by kernel_rfl
theorem pt47_0 : partT Tryd.prog 47 0 = some (0, 1) := by kernel_rfl
theorem se22 : seOf Tryd.prog 22 = some (9, 1, 16, #[.string ByteArray.empty]) := by kernel_rfl
theorem sf66 : uStr Tryd.prog 66 = false := by kernel_rfl
theorem st9 : uStr Tryd.prog 9 = true := by kernel_rfl
theorem ua102 : uArr Tryd.prog 102 = some (16, 2) := by kernel_rfl
theorem ua99 : uArr Tryd.prog 99 = some (256, 1) := by kernel_rfl
theorem ui3 : (Tryd.prog.underlying 3).isSome = true := by kernel_rfl
theorem ui5 : (Tryd.prog.underlying 5).isSome = true := by kernel_rfl
theorem ui57 : (Tryd.prog.underlying 57).isSome = true := by kernel_rfl
theorem ui65 : (Tryd.prog.underlying 65).isSome = true := by kernel_rfl
theorem ui66 : (Tryd.prog.underlying 66).isSome = true := by kernel_rfl
theorem ui82 : (Tryd.prog.underlying 82).isSome = true := by kernel_rfl
theorem ui9 : (Tryd.prog.underlying 9).isSome = true := by kernel_rfl
theorem us22 : uSlice Tryd.prog 22 = some (9, 1) := by kernel_rfl
theorem us66 : uSlice Tryd.prog 66 = some (5, 1) := by kernel_rfl
theorem zt101 : zeroT Tryd.prog 101 = some #[.int .u8 0, .int .u8 0] := by kernel_rfl
theorem zt102 : zeroT Tryd.prog 102 = some #[.int .u8 0, .int .u8 0, .int .u8 0, .int .u8 0, .int .u8 0, .int .u8 0, .int .u8 0, .int .u8 0, .int .u8 0, .int .u8 0, .int .u8 0, .int .u8 0, .int .u8 0, .int .u8 0, .int .u8 0, .int .u8 0, .int .u8 0, .int .u8 0, .int .u8 0, .int .u8 0, .int .u8 0, .int .u8 0, .int .u8 0, .int .u8 0, .int .u8 0, .int .u8 0, .int .u8 0, .int .u8 0, .int .u8 0, .int .u8 0, .int .u8 0, .int .u8 0] := by kernel_rfl
theorem zt22 : zeroT Tryd.prog 22 = some #[.slice none 0 0] := by kernel_rfl
theorem zt3 : zeroT Tryd.prog 3 = some #[.int .i64 0] := by kernel_rfl
theorem zt42 : zeroT Tryd.prog 42 = some #[.map none] := by kernel_rfl
theorem zt45 : zeroT Tryd.prog 45 = some #[.map none, .map none, .int .i64 0, .int .i64 0, .int .i64 0, .bool false] := by kernel_rfl
theorem zt47 : zeroT Tryd.prog 47 = some #[.bool false, .string ByteArray.empty, .string ByteArray.empty, .bool false, .bool false, .int .i64 0] := by kernel_rfl
theorem cl8 : callable Tryd.prog 8 = true := by kernel_rfl
theorem cl9 : callable Tryd.prog 9 = true := by kernel_rfl
theorem cl10 : callable Tryd.prog 10 = true := by kernel_rfl
theorem cl11 : callable Tryd.prog 11 = true := by kernel_rfl
theorem cl13 : callable Tryd.prog 13 = true := by kernel_rfl
theorem cl14 : callable Tryd.prog 14 = true := by kernel_rfl
theorem cl15 : callable Tryd.prog 15 = true := by kernel_rfl
theorem cl17 : callable Tryd.prog 17 = true := by kernel_rfl
theorem cl18 : callable Tryd.prog 18 = true := by kernel_rfl
theorem cl19 : callable Tryd.prog 19 = true := by kernel_rfl
theorem cl20 : callable Tryd.prog 20 = true := by kernel_rfl
theorem cl21 : callable Tryd.prog 21 = true := by kernel_rfl
theorem cl24 : callable Tryd.prog 24 = true := by kernel_rfl
theorem cl27 : callable Tryd.prog 27 = true := by kernel_rfl
theorem cl28 : callable Tryd.prog 28 = true := by kernel_rfl
theorem cl29 : callable Tryd.prog 29 = true := by kernel_rfl
theorem cl30 : callable Tryd.prog 30 = true := by kernel_rfl
theorem cl31 : callable Tryd.prog 31 = true := by kernel_rfl
theorem cl32 : callable Tryd.prog 32 = true := by kernel_rfl
theorem cl33 : callable Tryd.prog 33 = true := by kernel_rfl
theorem cl34 : callable Tryd.prog 34 = true := by kernel_rfl
theorem cl35 : callable Tryd.prog 35 = true := by kernel_rfl
theorem cl36 : callable Tryd.prog 36 = true := by kernel_rfl
theorem cl37 : callable Tryd.prog 37 = true := by kernel_rfl
theorem cl39 : callable Tryd.prog 39 = true := by kernel_rfl
theorem cl41 : callable Tryd.prog 41 = true := by kernel_rfl
theorem cl42 : callable Tryd.prog 42 = true := by kernel_rfl
theorem cl43 : callable Tryd.prog 43 = true := by kernel_rfl
theorem cl44 : callable Tryd.prog 44 = true := by kernel_rfl
theorem cl47 : callable Tryd.prog 47 = true := by kernel_rfl
theorem cl50 : callable Tryd.prog 50 = true := by kernel_rfl
theorem cl51 : callable Tryd.prog 51 = true := by kernel_rfl
theorem cl52 : callable Tryd.prog 52 = true := by kernel_rfl
theorem cl54 : callable Tryd.prog 54 = true := by kernel_rfl
theorem cl68 : callable Tryd.prog 68 = true := by kernel_rfl
theorem cl70 : callable Tryd.prog 70 = true := by kernel_rfl
theorem cl78 : callable Tryd.prog 78 = true := by kernel_rfl
attribute [push_cast] ev_tmp ev_const ev_global ev_func evs_nil evs_cons stp_some stp_none dsts_nil dsts_cons argsE_nil argsE_cons intBin_add intBin_sub intBin_mul intBin_quo intBin_rem intBin_and intBin_or intBin_xor intBin_andNot intBin_eql intBin_neq intBin_lss intBin_leq intBin_gtr intBin_geq intBin_shl intBin_shr strBin_add strBin_eql strBin_neq strBin_lss strBin_leq strBin_gtr strBin_geq pureBin_int pureBin_str pureBin_beq pureBin_bne pureBin_peq pureBin_pne pureBin_seq pureBin_sne pureBin_agg effEq_eql effEq_neq pureUn_not pureUn_neg pureUn_xor pureConv_int pureConv_str pureField_eq pureIndexAddr_s pureIndexAddr_p pureIndex_s oInt_none oInt_some pureSlice_str pureSlice_sl pureB_len pureB_lens pureB_cap pureB_max pureB_min pureB_app pureB_copy po_move po_assign po_pick po_bin po_un po_conv po_field po_extract po_faddr po_iaddr po_index po_slice po_nil po_builtin po_call po_load po_store po_alloc po_box po_build po_buildS po_makeS eo_load eo_store eo_build eo_buildS eo_makeS eo_app eo_call eo_bin eq_load eq_build eq_call eq_bin parts_nil parts_cons outG_none outG_some dstOk_none dstOk_some out_eq outR_eq outOp_eq outQ_eq imm_load immQ_load imm_alloc imm_box imm_store imm_build imm_call imm_bin immQ_build immQ_call immQ_bin imm_buildS imm_makeS v2_nil v2_cons vq_nil vq_cons undef_eq
attribute [push_cast] List.take_succ_cons List.take_zero List.drop_succ_cons List.drop_zero true_and and_true Option.isSome_some List.getElem?_cons_zero List.getElem?_cons_succ List.length_cons List.length_nil cond_true cond_false Int.toNat_natCast Nat.mul_one Nat.add_zero Nat.zero_add Addr.add_lit bne_self_eq_false beq_self_eq_true Bool.not_true Bool.not_false List.size_toArray Array.getD_eq_getD_getElem? List.getElem?_toArray Option.getD_some decide_true decide_false eq_self Bool.true_beq Bool.false_beq List.getD_cons_zero List.getD_cons_succ List.map_cons List.map_nil List.set_cons_zero List.set_cons_succ List.replicate_zero List.toList_toArray List.all_toArray List.all_cons List.all_nil Bool.and_self Bool.and_true Bool.true_and Bool.and_false Bool.false_and List.length_map List.length_append List.length_replicate List.length_set List.cons_append List.nil_append cond_triv Option.isSome_some Option.isSome_none beq_true beq_false Bool.not_false Option.map_some Bool.true_or Bool.false_or Bool.or_true Bool.or_false Bool.false_xor Bool.true_xor and_self beq_self_eq_true fv_default List.flatMap_cons List.flatMap_nil List.append_nil
attribute [push_cast] lk_lo zS zM zX zU hev_tmp hev_const hev_global hev_func hevs_nil hevs_cons leaf_v leaf_none leaf_lst leaf_own leaf_ptr leaf_elt leaf_agg leaf_tup leaf_vw leaf_junk hPure_some hPure_none hop_eq heff_move heff_assign heff_pick heff_extract heff_field heff_faddr heff_nilc heff_iaddr heff_slice heff_load heff_store heff_alloc heff_box heff_build heff_buildS heff_makeS heff_len heff_app heff_callf heff_eql heff_neq heff_conv hMove_eq hPick_eq hExtract_eq hField_one hField_sub hFAddr_ptr hFAddr_elt hNil_ptr hNil_elt hIAddr_own hIAddr_lst hIAddr_ptr hIAddr_elt hIAddrR_eq hIAddrL_eq hIAddrP_eq hIAddrE_eq hLen_vw hSlice_own hSlice_vw hSliceR_eq hSliceV_eq rlen_sl hIAddr_vw hIAddrV_eq newsOf_vw hcells_vw hone_vw hkill_vw hren_vw hsub_vw ownIds_vw ownCell_vw hLen_own hLen_lst hLenR_hl hIAddrR_hl hLenR_eq hSlice_eq hSliceL_eq hLoad_ptr hLoad_elt hLoadR_sl hLoadR_sla hLoadR_bx hLoadR_bxa hLoadR_hl hLoadR_hla hStoreR_hl hStoreH_one hStoreH_agg hLoadE_one hLoadE_agg hStore_eq hStoreR_sl hStoreR_bx hStoreS_one hStoreS_agg hStoreB_one hStoreB_agg hAlloc_eq hBox_eq hBoxC_eq partsH_nil partsH_cons hfill_nil hfill_cons hBuild_eq hBuildF_eq hlit_nil hlit_cons hBuildS_eq allF_nil allF_cons hlitH_nil hlitH_cons hkl_eq hBuildSE_t hBuildSE_f hBuildSH_eq hBuildSF_eq hMake_eq newsOf_own newsOf_lst newsOf_nil hAppend_own newsH_own newsH_lst newsH_nil arr2_eq newsA_t newsA_f newsS_str hAppend_nil hAppR_hl hAppH_eq hAppR_eq hAppN_eq leafs_nil leafs_cons hEq_eq hEq_ptr hEq_elt hConv_str hConv_own hConv_lst hConvR_eq hConvL_eq bytesH_nil bytesH_cons hEqL_eq hCall_eq ats0_eq oneAll_eq hf_v hf_own hf_vw hf_ptr hf_lst hfs_nil hfs_cons fone_v fone_lst hone_v hone_lst hone_own hone_ptr fh_v fh_lst one_int hcellv_int one_bool hcellv_bool one_str hcellv_str one_slice hcellv_slice one_ptr hcellv_ptr hcells_agg hcells_lst hcells_own hcells_ptr splice_eq kill_eq row_eq set_some set_none rep_eq hrep_nil hrep_cons ekill_nil ekill_cons skill_nil skill_cons rkill_sl rkill_hl rkill_bx hkill_v hren_v hsub_v hkill_lst hren_lst hsub_lst hkill_elt hren_elt hsub_elt hkill_junk hren_junk hsub_junk hkill_own hkill_ptr hkill_agg hkill_tup hren_own hren_ptr hren_agg hren_tup hsub_own hsub_ptr hsub_agg hsub_tup rren_sl rren_hl rren_bx rsub_sl rsub_hl rsub_bx only_eq eight_eq sh_eq adds_eq radds_nil radds_cons rest_eq esub_nil esub_cons ssub_nil ssub_cons sset_nil sset_cons hG_none hG_some hGv_bool hGv_tup hgo_go hgo_call hgo_eqn hgo_bytes hgo_eq hgo1_eq hpre_move hpre_assign hpre_pick hpre_extract hpre_field hpre_faddr hpre_nilc hpre_iaddr hpre_slice hpre_load hpre_build hpre_bin hpre_un hpre_conv hpre_index hpre_call hpre_alloc hpre_box hpre_make hpre_store hpre_buildS ownsS_eq ownsR_sl ownsR_bx ownsP_eq ownIds_own ownIds_v ownIds_lst ownIds_agg ownCell_own ownCell_v ownCell_lst restAll_nil restAll_cons restOne_eq ownsR_hl hskip_eq hstep_yes hstep_no hstep_ask hv2_nil hv2_cons hgoq_go hgoq_call hgoq_eqn hgoq_eq hstepq_yes hstepq_no hstepq_ask hvq_nil hvq_cons slotX_tmp slotX_const slotX_global slotX_func slotsL_nil slotsL_cons slotsP_nil slotsP_cons slotO_some slotO_none slotsOf_move slotsOf_assign slotsOf_nilc slotsOf_pick slotsOf_extract slotsOf_field slotsOf_faddr slotsOf_load slotsOf_un slotsOf_conv slotsOf_iaddr slotsOf_index slotsOf_slice slotsOf_bin slotsOf_build slotsOf_buildS slotsOf_makeS slotsOf_call slotG_none slotG_some pickE_nil pickE_cons plainE_nil plainE_v plainE_lst plainE_agg hmade_eq made_buildS made_makeS quiet_buildS quiet_makeS hgor_go hgor_call hgor_eqn hgor_eq hstepr_yes hstepr_no hstepr_ask hvr_nil hvr_cons idOf_some idOf_none quiet_move quiet_assign quiet_pick quiet_extract quiet_field quiet_faddr quiet_nilc quiet_iaddr quiet_slice quiet_load quiet_build quiet_bin quiet_un quiet_conv quiet_index quiet_len quiet_min argsH_nil argsH_cons heff_index hIndexA_agg heff_copy hCopy_own hCopy_vw hCopyR_own hCopyR_vw hCopyN_some slotsC_value slotsC_builtin heff_callt fnH_v hCallV_some
 nthO_nil nthO_cons sh2_eq inL_nil inL_cons isSl_none isSl_sl isSl_bx isSl_hl isBx_hl dark_hl flag_hl flag_ohl isBx_none isBx_sl isBx_t isBx_f turned_eq gone_eq oldRow_eq dark_sl dark_bx flag_none flag_sl flag_bx flag_osl dpick_nil dpick_cons swp_nil swp_cons swap_eq cond_true' ltT ltF leT leF eqT eqF getD_map wr64 toNat_succ toNat_add
attribute [push_cast] bd101 bd102 bd45 bd47 cb9_66 fo101_0 fo101_1 fo45_0 fo45_1 fo45_2 fo45_3 fo45_4 fo45_5 fo47_0 fo47_1 fo47_2 fo47_3 fo47_4 fo47_5 fp47_0 fp47_5 it21 it3 it5 it57 it65 it82 kt101 kt102 kt22 kt3 kt4 kt42 kt43 kt47 kt5 kt9 pp23 pt101_0 pt101_1 pt102_0 pt102_1 pt102_2 pt102_3 pt102_4 pt45_0 pt45_1 pt45_4 pt47_0 se22 sf66 st9 ua102 ua99 ui3 ui5 ui57 ui65 ui66 ui82 ui9 us22 us66 zt101 zt102 zt22 zt3 zt42 zt45 zt47
attribute [push_cast] ev_tmp ev_const ev_global ev_func evs_nil evs_cons stp_some stp_none dsts_nil dsts_cons argsE_nil argsE_cons intBin_add intBin_sub intBin_mul intBin_quo intBin_rem intBin_and intBin_or intBin_xor intBin_andNot intBin_eql intBin_neq intBin_lss intBin_leq intBin_gtr intBin_geq intBin_shl intBin_shr strBin_add strBin_eql strBin_neq strBin_lss strBin_leq strBin_gtr strBin_geq pureBin_int pureBin_str pureBin_beq pureBin_bne pureBin_peq pureBin_pne pureBin_seq pureBin_sne pureBin_agg effEq_eql effEq_neq pureUn_not pureUn_neg pureUn_xor pureConv_int pureConv_str pureField_eq pureIndexAddr_s pureIndexAddr_p pureIndex_s oInt_none oInt_some pureSlice_str pureSlice_sl pureB_len pureB_lens pureB_cap pureB_max pureB_min pureB_app pureB_copy po_move po_assign po_pick po_bin po_un po_conv po_field po_extract po_faddr po_iaddr po_index po_slice po_nil po_builtin po_call po_load po_store po_alloc po_box po_build po_buildS po_makeS eo_load eo_store eo_build eo_buildS eo_makeS eo_app eo_call eo_bin eq_load eq_build eq_call eq_bin parts_nil parts_cons outG_none outG_some dstOk_none dstOk_some out_eq outR_eq outOp_eq outQ_eq imm_load immQ_load imm_alloc imm_box imm_store imm_build imm_call imm_bin immQ_build immQ_call immQ_bin imm_buildS imm_makeS v2_nil v2_cons vq_nil vq_cons undef_eq
attribute [push_cast] List.take_succ_cons List.take_zero List.drop_succ_cons List.drop_zero true_and and_true Option.isSome_some List.getElem?_cons_zero List.getElem?_cons_succ List.length_cons List.length_nil cond_true cond_false Int.toNat_natCast Nat.mul_one Nat.add_zero Nat.zero_add Addr.add_lit bne_self_eq_false beq_self_eq_true Bool.not_true Bool.not_false List.size_toArray Array.getD_eq_getD_getElem? List.getElem?_toArray Option.getD_some decide_true decide_false eq_self Bool.true_beq Bool.false_beq List.getD_cons_zero List.getD_cons_succ List.map_cons List.map_nil List.set_cons_zero List.set_cons_succ List.replicate_zero List.toList_toArray List.all_toArray List.all_cons List.all_nil Bool.and_self Bool.and_true Bool.true_and Bool.and_false Bool.false_and List.length_map List.length_append List.length_replicate List.length_set List.cons_append List.nil_append cond_triv Option.isSome_some Option.isSome_none beq_true beq_false Bool.not_false Option.map_some Bool.true_or Bool.false_or Bool.or_true Bool.or_false Bool.false_xor Bool.true_xor and_self beq_self_eq_true fv_default List.flatMap_cons List.flatMap_nil List.append_nil
attribute [push_cast] lk_lo zS zM zX zU hev_tmp hev_const hev_global hev_func hevs_nil hevs_cons leaf_v leaf_none leaf_lst leaf_own leaf_ptr leaf_elt leaf_agg leaf_tup leaf_vw leaf_junk hPure_some hPure_none hop_eq heff_move heff_assign heff_pick heff_extract heff_field heff_faddr heff_nilc heff_iaddr heff_slice heff_load heff_store heff_alloc heff_box heff_build heff_buildS heff_makeS heff_len heff_app heff_callf heff_eql heff_neq heff_conv hMove_eq hPick_eq hExtract_eq hField_one hField_sub hFAddr_ptr hFAddr_elt hNil_ptr hNil_elt hIAddr_own hIAddr_lst hIAddr_ptr hIAddr_elt hIAddrR_eq hIAddrL_eq hIAddrP_eq hIAddrE_eq hLen_vw hSlice_own hSlice_vw hSliceR_eq hSliceV_eq rlen_sl hIAddr_vw hIAddrV_eq newsOf_vw hcells_vw hone_vw hkill_vw hren_vw hsub_vw ownIds_vw ownCell_vw hLen_own hLen_lst hLenR_hl hIAddrR_hl hLenR_eq hSlice_eq hSliceL_eq hLoad_ptr hLoad_elt hLoadR_sl hLoadR_sla hLoadR_bx hLoadR_bxa hLoadR_hl hLoadR_hla hStoreR_hl hStoreH_one hStoreH_agg hLoadE_one hLoadE_agg hStore_eq hStoreR_sl hStoreR_bx hStoreS_one hStoreS_agg hStoreB_one hStoreB_agg hAlloc_eq hBox_eq hBoxC_eq partsH_nil partsH_cons hfill_nil hfill_cons hBuild_eq hBuildF_eq hlit_nil hlit_cons hBuildS_eq allF_nil allF_cons hlitH_nil hlitH_cons hkl_eq hBuildSE_t hBuildSE_f hBuildSH_eq hBuildSF_eq hMake_eq newsOf_own newsOf_lst newsOf_nil hAppend_own newsH_own newsH_lst newsH_nil arr2_eq newsA_t newsA_f newsS_str hAppend_nil hAppR_hl hAppH_eq hAppR_eq hAppN_eq leafs_nil leafs_cons hEq_eq hEq_ptr hEq_elt hConv_str hConv_own hConv_lst hConvR_eq hConvL_eq bytesH_nil bytesH_cons hEqL_eq hCall_eq ats0_eq oneAll_eq hf_v hf_own hf_vw hf_ptr hf_lst hfs_nil hfs_cons fone_v fone_lst hone_v hone_lst hone_own hone_ptr fh_v fh_lst one_int hcellv_int one_bool hcellv_bool one_str hcellv_str one_slice hcellv_slice one_ptr hcellv_ptr hcells_agg hcells_lst hcells_own hcells_ptr splice_eq kill_eq row_eq set_some set_none rep_eq hrep_nil hrep_cons ekill_nil ekill_cons skill_nil skill_cons rkill_sl rkill_hl rkill_bx hkill_v hren_v hsub_v hkill_lst hren_lst hsub_lst hkill_elt hren_elt hsub_elt hkill_junk hren_junk hsub_junk hkill_own hkill_ptr hkill_agg hkill_tup hren_own hren_ptr hren_agg hren_tup hsub_own hsub_ptr hsub_agg hsub_tup rren_sl rren_hl rren_bx rsub_sl rsub_hl rsub_bx only_eq eight_eq sh_eq adds_eq radds_nil radds_cons rest_eq esub_nil esub_cons ssub_nil ssub_cons sset_nil sset_cons hG_none hG_some hGv_bool hGv_tup hgo_go hgo_call hgo_eqn hgo_bytes hgo_eq hgo1_eq hpre_move hpre_assign hpre_pick hpre_extract hpre_field hpre_faddr hpre_nilc hpre_iaddr hpre_slice hpre_load hpre_build hpre_bin hpre_un hpre_conv hpre_index hpre_call hpre_alloc hpre_box hpre_make hpre_store hpre_buildS ownsS_eq ownsR_sl ownsR_bx ownsP_eq ownIds_own ownIds_v ownIds_lst ownIds_agg ownCell_own ownCell_v ownCell_lst restAll_nil restAll_cons restOne_eq ownsR_hl hskip_eq hstep_yes hstep_no hstep_ask hv2_nil hv2_cons hgoq_go hgoq_call hgoq_eqn hgoq_eq hstepq_yes hstepq_no hstepq_ask hvq_nil hvq_cons slotX_tmp slotX_const slotX_global slotX_func slotsL_nil slotsL_cons slotsP_nil slotsP_cons slotO_some slotO_none slotsOf_move slotsOf_assign slotsOf_nilc slotsOf_pick slotsOf_extract slotsOf_field slotsOf_faddr slotsOf_load slotsOf_un slotsOf_conv slotsOf_iaddr slotsOf_index slotsOf_slice slotsOf_bin slotsOf_build slotsOf_buildS slotsOf_makeS slotsOf_call slotG_none slotG_some pickE_nil pickE_cons plainE_nil plainE_v plainE_lst plainE_agg hmade_eq made_buildS made_makeS quiet_buildS quiet_makeS hgor_go hgor_call hgor_eqn hgor_eq hstepr_yes hstepr_no hstepr_ask hvr_nil hvr_cons idOf_some idOf_none quiet_move quiet_assign quiet_pick quiet_extract quiet_field quiet_faddr quiet_nilc quiet_iaddr quiet_slice quiet_load quiet_build quiet_bin quiet_un quiet_conv quiet_index quiet_len quiet_min argsH_nil argsH_cons heff_index hIndexA_agg heff_copy hCopy_own hCopy_vw hCopyR_own hCopyR_vw hCopyN_some slotsC_value slotsC_builtin heff_callt fnH_v hCallV_some
 nthO_nil nthO_cons sh2_eq inL_nil inL_cons isSl_none isSl_sl isSl_bx isSl_hl isBx_hl dark_hl flag_hl flag_ohl isBx_none isBx_sl isBx_t isBx_f turned_eq gone_eq oldRow_eq dark_sl dark_bx flag_none flag_sl flag_bx flag_osl dpick_nil dpick_cons swp_nil swp_cons swap_eq cond_true' ltT ltF leT leF eqT eqF getD_map wr64 toNat_succ toNat_add
attribute [push_cast] bd101 bd102 bd45 bd47 cb9_66 fo101_0 fo101_1 fo45_0 fo45_1 fo45_2 fo45_3 fo45_4 fo45_5 fo47_0 fo47_1 fo47_2 fo47_3 fo47_4 fo47_5 fp47_0 fp47_5 it21 it3 it5 it57 it65 it82 kt101 kt102 kt22 kt3 kt4 kt42 kt43 kt47 kt5 kt9 pp23 pt101_0 pt101_1 pt102_0 pt102_1 pt102_2 pt102_3 pt102_4 pt45_0 pt45_1 pt45_4 pt47_0 se22 sf66 st9 ua102 ua99 ui3 ui5 ui57 ui65 ui66 ui82 ui9 us22 us66 zt101 zt102 zt22 zt3 zt42 zt45 zt47
end Go.Proofs.YtojolcpblacjjaaDoor
