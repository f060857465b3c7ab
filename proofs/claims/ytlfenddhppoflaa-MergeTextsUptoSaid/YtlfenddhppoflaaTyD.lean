/- What the walk of the law stands on. -/
import Derived.Test.YtlfenddhppoflaaGc
import Derived.Test.YtlfenddhppoflaaProg
namespace Go.Proofs.Ytlfenddhppoflaa
open Go Go.Eng
theorem mixed : Try.prog.follows .mixedOrders = true := by kernel_rfl
theorem ac105 : aCell Try.prog 105 = some 3 := by kernel_rfl
theorem bb4 : uBool Try.prog 4 = true := by kernel_rfl
theorem bd105 : buildable Try.prog 105 = true := by kernel_rfl
theorem bd109 : buildable Try.prog 109 = true := by kernel_rfl
theorem bd114 : buildable Try.prog 114 = true := by kernel_rfl
theorem bd29 : buildable Try.prog 29 = true := by kernel_rfl
theorem bd43 : buildable Try.prog 43 = true := by kernel_rfl
theorem bd53 : buildable Try.prog 53 = true := by kernel_rfl
theorem bd77 : buildable Try.prog 77 = true := by kernel_rfl
theorem bd87 : buildable Try.prog 87 = true := by kernel_rfl
theorem bd95 : buildable Try.prog 95 = true := by kernel_rfl
theorem bd99 : buildable Try.prog 99 = true := by kernel_rfl
theorem cb9_102 : convB Try.prog 9 102 = true := by kernel_rfl
theorem fo109_0 : fOff Try.prog 109 0 = some 0 := by kernel_rfl
theorem fo109_1 : fOff Try.prog 109 1 = some 1 := by kernel_rfl
theorem fo109_2 : fOff Try.prog 109 2 = some 2 := by kernel_rfl
theorem fo109_3 : fOff Try.prog 109 3 = some 3 := by kernel_rfl
theorem fo109_4 : fOff Try.prog 109 4 = some 4 := by kernel_rfl
theorem fo109_5 : fOff Try.prog 109 5 = some 5 := by kernel_rfl
theorem fo109_6 : fOff Try.prog 109 6 = some 6 := by kernel_rfl
theorem fo119_0 : fOff Try.prog 119 0 = some 0 := by kernel_rfl
theorem fo119_1 : fOff Try.prog 119 1 = some 1 := by kernel_rfl
theorem fo29_0 : fOff Try.prog 29 0 = some 0 := by kernel_rfl
theorem fo29_1 : fOff Try.prog 29 1 = some 1 := by kernel_rfl
theorem fo53_0 : fOff Try.prog 53 0 = some 0 := by kernel_rfl
theorem fo53_1 : fOff Try.prog 53 1 = some 1 := by kernel_rfl
theorem fo53_2 : fOff Try.prog 53 2 = some 2 := by kernel_rfl
theorem fo77_0 : fOff Try.prog 77 0 = some 0 := by kernel_rfl
theorem fo77_1 : fOff Try.prog 77 1 = some 1 := by kernel_rfl
theorem fo77_2 : fOff Try.prog 77 2 = some 2 := by kernel_rfl
theorem fo77_3 : fOff Try.prog 77 3 = some 3 := by kernel_rfl
theorem fo87_0 : fOff Try.prog 87 0 = some 0 := by kernel_rfl
theorem fo87_1 : fOff Try.prog 87 1 = some 1 := by kernel_rfl
theorem fo95_0 : fOff Try.prog 95 0 = some 0 := by kernel_rfl
theorem fo95_1 : fOff Try.prog 95 1 = some 1 := by kernel_rfl
theorem fo95_2 : fOff Try.prog 95 2 = some 2 := by kernel_rfl
theorem fo95_3 : fOff Try.prog 95 3 = some 3 := by kernel_rfl
theorem it129 : uInt Try.prog 129 = some .u64 := by kernel_rfl
theorem it136 : uInt Try.prog 136 = some .u32 := by kernel_rfl
theorem it139 : uInt Try.prog 139 = some .u64 := by kernel_rfl
theorem it3 : uInt Try.prog 3 = some .i64 := by kernel_rfl
theorem kt102 : kindT Try.prog 102 = some none := by kernel_rfl
theorem kt109 : kindT Try.prog 109 = some (some 7) := by kernel_rfl
theorem kt117 : kindT Try.prog 117 = some none := by kernel_rfl
theorem kt22 : kindT Try.prog 22 = some none := by kernel_rfl
theorem kt29 : kindT Try.prog 29 = some (some 2) := by kernel_rfl
theorem kt3 : kindT Try.prog 3 = some none := by kernel_rfl
theorem kt4 : kindT Try.prog 4 = some none := by kernel_rfl
theorem kt43 : kindT Try.prog 43 = some (some 2) := by kernel_rfl
theorem kt5 : kindT Try.prog 5 = some none := by kernel_rfl
theorem kt53 : kindT Try.prog 53 = some (some 3) := by kernel_rfl
theorem kt70 : kindT Try.prog 70 = some none := by kernel_rfl
theorem kt77 : kindT Try.prog 77 = some (some 4) := by kernel_rfl
theorem kt85 : kindT Try.prog 85 = some none := by kernel_rfl
theorem kt87 : kindT Try.prog 87 = some (some 2) := by kernel_rfl
theorem kt89 : kindT Try.prog 89 = some none := by kernel_rfl
theorem kt9 : kindT Try.prog 9 = some none := by kernel_rfl
theorem kt91 : kindT Try.prog 91 = some none := by kernel_rfl
theorem kt95 : kindT Try.prog 95 = some (some 4) := by kernel_rfl
theorem pp117 : uPtr Try.prog 117 = true := by kernel_rfl
theorem pt105_0 : partT Try.prog 105 0 = some (0, 1) := by kernel_rfl
theorem pt105_1 : partT Try.prog 105 1 = some (1, 1) := by kernel_rfl
theorem pt105_2 : partT Try.prog 105 2 = some (2, 1) := by kernel_rfl
theorem pt109_0 : partT Try.prog 109 0 = some (0, 1) := by kernel_rfl
theorem pt109_1 : partT Try.prog 109 1 = some (1, 1) := by kernel_rfl
theorem pt109_2 : partT Try.prog 109 2 = some (2, 1) := by kernel_rfl
theorem pt114_0 : partT Try.prog 114 0 = some (0, 1) := by kernel_rfl
theorem pt114_1 : partT Try.prog 114 1 = some (1, 1) := by kernel_rfl
theorem pt114_2 : partT Try.prog 114 2 = some (2, 1) := by kernel_rfl
theorem pt29_0 : partT Try.prog 29 0 = some (0, 1) := by kernel_rfl
theorem pt29_1 : partT Try.prog 29 1 = some (1, 1) := by kernel_rfl
theorem pt43_0 : partT Try.prog 43 0 = some (0, 1) := by kernel_rfl
theorem pt43_1 : partT Try.prog 43 1 = some (1, 1) := by kernel_rfl
theorem pt53_0 : partT Try.prog 53 0 = some (0, 1) := by kernel_rfl
theorem pt53_1 : partT Try.prog 53 1 = some (1, 1) := by kernel_rfl
theorem pt53_2 : partT Try.prog 53 2 = some (2, 1) := by kernel_rfl
theorem pt77_0 : partT Try.prog 77 0 = some (0, 1) := by kernel_rfl
theorem pt77_1 : partT Try.prog 77 1 = some (1, 1) := by kernel_rfl
theorem pt77_2 : partT Try.prog 77 2 = some (2, 1) := by kernel_rfl
theorem pt77_3 : partT Try.prog 77 3 = some (3, 1) := by kernel_rfl
theorem pt87_0 : partT Try.prog 87 0 = some (0, 1) := by kernel_rfl
theorem pt87_1 : partT Try.prog 87 1 = some (1, 1) := by kernel_rfl
theorem pt95_0 : partT Try.prog 95 0 = some (0, 1) := by kernel_rfl
theorem pt95_1 : partT Try.prog 95 1 = some (1, 1) := by kernel_rfl
theorem pt95_2 : partT Try.prog 95 2 = some (2, 1) := by kernel_rfl
theorem pt95_3 : partT Try.prog 95 3 = some (3, 1) := by kernel_rfl
theorem pt99_0 : partT Try.prog 99 0 = some (0, 1) := by kernel_rfl
theorem pt99_1 : partT Try.prog 99 1 = some (1, 1) := by kernel_rfl
theorem pt99_2 : partT Try.prog 99 2 = some (2, 1) := by kernel_rfl
theorem pt99_3 : partT Try.prog 99 3 = some (3, 1) := by kernel_rfl
theorem se102 : seOf Try.prog 102 = some (5, 1, 1, #[.int .u8 0]) := by kernel_rfl
theorem se112 : seOf Try.prog 112 = some (114, 3, 24, #[.int .i64 0, .int .i64 0, .int .i64 0]) := by kernel_rfl
theorem se115 : seOf Try.prog 115 = some (91, 1, 24, #[.slice none 0 0]) := by kernel_rfl
theorem se22 : seOf Try.prog 22 = some (9, 1, 16, #[.string ByteArray.empty]) := by kernel_rfl
theorem se23 : seOf Try.prog 23 = some (29, 2, 16, #[.int .i64 0, .int .i64 0]) := by kernel_rfl
theorem se36 : seOf Try.prog 36 = some (43, 2, 16, #[.int .i64 0, .int .i64 0]) := by kernel_rfl
theorem se45 : seOf Try.prog 45 = some (53, 3, 56, #[.int .i64 0, .slice none 0 0, .slice none 0 0]) := by kernel_rfl
theorem se51 : seOf Try.prog 51 = some (22, 1, 24, #[.slice none 0 0]) := by kernel_rfl
theorem se70 : seOf Try.prog 70 = some (77, 4, 80, #[.bool false, .slice none 0 0, .slice none 0 0, .slice none 0 0]) := by kernel_rfl
theorem se85 : seOf Try.prog 85 = some (89, 1, 2, #[.int .i16 0]) := by kernel_rfl
theorem se91 : seOf Try.prog 91 = some (3, 1, 8, #[.int .i64 0]) := by kernel_rfl
theorem se93 : seOf Try.prog 93 = some (95, 4, 32, #[.int .i64 0, .int .i64 0, .int .i64 0, .int .i64 0]) := by kernel_rfl
theorem se97 : seOf Try.prog 97 = some (99, 4, 32, #[.int .i64 0, .int .i64 0, .int .i64 0, .int .i64 0]) := by kernel_rfl
theorem sf102 : uStr Try.prog 102 = false := by kernel_rfl
theorem st9 : uStr Try.prog 9 = true := by kernel_rfl
theorem ua114 : uArr Try.prog 114 = some (3, 1) := by kernel_rfl
theorem ua43 : uArr Try.prog 43 = some (2, 1) := by kernel_rfl
theorem ua99 : uArr Try.prog 99 = some (4, 1) := by kernel_rfl
theorem ui117 : (Try.prog.underlying 117).isSome = true := by kernel_rfl
theorem ui129 : (Try.prog.underlying 129).isSome = true := by kernel_rfl
theorem ui133 : (Try.prog.underlying 133).isSome = true := by kernel_rfl
theorem ui136 : (Try.prog.underlying 136).isSome = true := by kernel_rfl
theorem ui139 : (Try.prog.underlying 139).isSome = true := by kernel_rfl
theorem ui3 : (Try.prog.underlying 3).isSome = true := by kernel_rfl
theorem ui5 : (Try.prog.underlying 5).isSome = true := by kernel_rfl
theorem ui9 : (Try.prog.underlying 9).isSome = true := by kernel_rfl
theorem us102 : uSlice Try.prog 102 = some (5, 1) := by kernel_rfl
theorem us112 : uSlice Try.prog 112 = some (114, 3) := by kernel_rfl
theorem us115 : uSlice Try.prog 115 = some (91, 1) := by kernel_rfl
theorem us22 : uSlice Try.prog 22 = some (9, 1) := by kernel_rfl
theorem us23 : uSlice Try.prog 23 = some (29, 2) := by kernel_rfl
theorem us36 : uSlice Try.prog 36 = some (43, 2) := by kernel_rfl
theorem us45 : uSlice Try.prog 45 = some (53, 3) := by kernel_rfl
theorem us51 : uSlice Try.prog 51 = some (22, 1) := by kernel_rfl
theorem us70 : uSlice Try.prog 70 = some (77, 4) := by kernel_rfl
theorem us85 : uSlice Try.prog 85 = some (89, 1) := by kernel_rfl
theorem us91 : uSlice Try.prog 91 = some (3, 1) := by kernel_rfl
theorem us93 : uSlice Try.prog 93 = some (95, 4) := by kernel_rfl
theorem us97 : uSlice Try.prog 97 = some (99, 4) := by kernel_rfl
theorem zt105 : zeroT Try.prog 105 = some #[.string ByteArray.empty, .string ByteArray.empty, .string ByteArray.empty] := by kernel_rfl
theorem zt109 : zeroT Try.prog 109 = some #[.slice none 0 0, .slice none 0 0, .slice none 0 0, .int .i64 0, .int .i64 0, .int .i64 0, .slice none 0 0] := by kernel_rfl
theorem zt114 : zeroT Try.prog 114 = some #[.int .i64 0, .int .i64 0, .int .i64 0] := by kernel_rfl
theorem zt119 : zeroT Try.prog 119 = some #[.pointer none, .slice none 0 0] := by kernel_rfl
theorem zt29 : zeroT Try.prog 29 = some #[.int .i64 0, .int .i64 0] := by kernel_rfl
theorem zt43 : zeroT Try.prog 43 = some #[.int .i64 0, .int .i64 0] := by kernel_rfl
theorem zt53 : zeroT Try.prog 53 = some #[.int .i64 0, .slice none 0 0, .slice none 0 0] := by kernel_rfl
theorem zt77 : zeroT Try.prog 77 = some #[.bool false, .slice none 0 0, .slice none 0 0, .slice none 0 0] := by kernel_rfl
theorem zt87 : zeroT Try.prog 87 = some #[.int .i64 0, .slice none 0 0] := by kernel_rfl
theorem zt95 : zeroT Try.prog 95 = some #[.int .i64 0, .int .i64 0, .int .i64 0, .int .i64 0] := by kernel_rfl
theorem zt99 : zeroT Try.prog 99 = some #[.int .i64 0, .int .i64 0, .int .i64 0, .int .i64 0] := by kernel_rfl
theorem cl20 : callable Try.prog 20 = true := by kernel_rfl
theorem cl23 : callable Try.prog 23 = true := by kernel_rfl
theorem cl25 : callable Try.prog 25 = true := by kernel_rfl
theorem cl26 : callable Try.prog 26 = true := by kernel_rfl
theorem cl37 : callable Try.prog 37 = true := by kernel_rfl
theorem cl39 : callable Try.prog 39 = true := by kernel_rfl
theorem cl40 : callable Try.prog 40 = true := by kernel_rfl
theorem cl41 : callable Try.prog 41 = true := by kernel_rfl
theorem cl42 : callable Try.prog 42 = true := by kernel_rfl
theorem cl43 : callable Try.prog 43 = true := by kernel_rfl
theorem cl44 : callable Try.prog 44 = true := by kernel_rfl
theorem cl45 : callable Try.prog 45 = true := by kernel_rfl
theorem cl46 : callable Try.prog 46 = true := by kernel_rfl
theorem cl47 : callable Try.prog 47 = true := by kernel_rfl
theorem cl48 : callable Try.prog 48 = true := by kernel_rfl
theorem cl49 : callable Try.prog 49 = true := by kernel_rfl
theorem cl51 : callable Try.prog 51 = true := by kernel_rfl
theorem cl52 : callable Try.prog 52 = true := by kernel_rfl
theorem cl55 : callable Try.prog 55 = true := by kernel_rfl
theorem cl56 : callable Try.prog 56 = true := by kernel_rfl
theorem cl57 : callable Try.prog 57 = true := by kernel_rfl
theorem cl58 : callable Try.prog 58 = true := by kernel_rfl
theorem cl62 : callable Try.prog 62 = true := by kernel_rfl
theorem cl64 : callable Try.prog 64 = true := by kernel_rfl
theorem cl65 : callable Try.prog 65 = true := by kernel_rfl
theorem cl66 : callable Try.prog 66 = true := by kernel_rfl
theorem cl67 : callable Try.prog 67 = true := by kernel_rfl
theorem cl68 : callable Try.prog 68 = true := by kernel_rfl
theorem cl69 : callable Try.prog 69 = true := by kernel_rfl
theorem cl70 : callable Try.prog 70 = true := by kernel_rfl
theorem cl71 : callable Try.prog 71 = true := by kernel_rfl
theorem cl72 : callable Try.prog 72 = true := by kernel_rfl
theorem cl81 : callable Try.prog 81 = true := by kernel_rfl
theorem cl86 : callable Try.prog 86 = true := by kernel_rfl
theorem cl93 : callable Try.prog 93 = true := by kernel_rfl
attribute [push_cast] ev_tmp ev_const ev_global ev_func evs_nil evs_cons stp_some stp_none dsts_nil dsts_cons argsE_nil argsE_cons intBin_add intBin_sub intBin_mul intBin_quo intBin_rem intBin_and intBin_or intBin_xor intBin_andNot intBin_eql intBin_neq intBin_lss intBin_leq intBin_gtr intBin_geq intBin_shl intBin_shr strBin_add strBin_eql strBin_neq strBin_lss strBin_leq strBin_gtr strBin_geq pureBin_int pureBin_str pureBin_beq pureBin_bne pureBin_peq pureBin_pne pureBin_seq pureBin_sne pureBin_agg effEq_eql effEq_neq pureUn_not pureUn_neg pureUn_xor pureConv_int pureConv_str pureField_eq pureIndexAddr_s pureIndexAddr_p pureIndex_s oInt_none oInt_some pureSlice_str pureSlice_sl pureB_len pureB_lens pureB_cap pureB_max pureB_min pureB_app pureB_copy po_move po_assign po_pick po_bin po_un po_conv po_field po_extract po_faddr po_iaddr po_index po_slice po_nil po_builtin po_call po_load po_store po_alloc po_box po_build po_buildS po_makeS eo_load eo_store eo_build eo_buildS eo_makeS eo_app eo_call eo_bin eq_load eq_build eq_call eq_bin parts_nil parts_cons outG_none outG_some dstOk_none dstOk_some out_eq outR_eq outOp_eq outQ_eq imm_load immQ_load imm_alloc imm_box imm_store imm_build imm_call imm_bin immQ_build immQ_call immQ_bin imm_buildS imm_makeS v2_nil v2_cons vq_nil vq_cons undef_eq
attribute [push_cast] List.take_succ_cons List.take_zero List.drop_succ_cons List.drop_zero true_and and_true Option.isSome_some List.getElem?_cons_zero List.getElem?_cons_succ List.length_cons List.length_nil cond_true cond_false Int.toNat_natCast Nat.mul_one Nat.add_zero Nat.zero_add Addr.add_lit bne_self_eq_false beq_self_eq_true Bool.not_true Bool.not_false List.size_toArray Array.getD_eq_getD_getElem? List.getElem?_toArray Option.getD_some decide_true decide_false eq_self Bool.true_beq Bool.false_beq List.getD_cons_zero List.getD_cons_succ List.map_cons List.map_nil List.set_cons_zero List.set_cons_succ List.replicate_zero List.toList_toArray List.all_toArray List.all_cons List.all_nil Bool.and_self Bool.and_true Bool.true_and Bool.and_false Bool.false_and List.length_map List.length_append List.length_replicate List.length_set List.cons_append List.nil_append cond_triv Option.isSome_some Option.isSome_none beq_true beq_false Bool.not_false Option.map_some Bool.true_or Bool.false_or Bool.or_true Bool.or_false Bool.false_xor Bool.true_xor and_self beq_self_eq_true fv_default List.flatMap_cons List.flatMap_nil List.append_nil
attribute [push_cast] lk_lo qS qM qX qU hev_tmp hev_const hev_global hev_func hevs_nil hevs_cons leaf_v leaf_none leaf_lst leaf_own leaf_ptr leaf_elt leaf_agg leaf_tup leaf_vw leaf_junk hPure_some hPure_none hop_eq heff_move heff_assign heff_pick heff_extract heff_field heff_faddr heff_nilc heff_iaddr heff_slice heff_load heff_store heff_alloc heff_box heff_build heff_buildS heff_makeS heff_len heff_app heff_callf heff_eql heff_neq heff_conv hMove_eq hPick_eq hExtract_eq hField_one hField_sub hFAddr_ptr hFAddr_elt hNil_ptr hNil_elt hIAddr_own hIAddr_lst hIAddr_ptr hIAddr_elt hIAddrR_eq hIAddrL_eq hIAddrP_eq hIAddrE_eq hLen_vw hSlice_own hSlice_vw hSliceR_eq hSliceV_eq rlen_sl hIAddr_vw hIAddrV_eq newsOf_vw hcells_vw hone_vw hkill_vw hren_vw hsub_vw ownIds_vw ownCell_vw hLen_own hLen_lst hLenR_hl hIAddrR_hl hLenR_eq hSlice_eq hSliceL_eq hLoad_ptr hLoad_elt hLoadR_sl hLoadR_sla hLoadR_bx hLoadR_bxa hLoadR_hl hLoadR_hla hStoreR_hl hStoreH_one hStoreH_agg hLoadE_one hLoadE_agg hStore_eq hStoreR_sl hStoreR_bx hStoreS_one hStoreS_agg hStoreB_one hStoreB_agg hAlloc_eq hBox_eq hBoxC_eq partsH_nil partsH_cons hfill_nil hfill_cons hBuild_eq hBuildF_eq hlit_nil hlit_cons hBuildS_eq allF_nil allF_cons hlitH_nil hlitH_cons hkl_eq hBuildSE_t hBuildSE_f hBuildSH_eq hBuildSF_eq hMake_eq newsOf_own newsOf_lst newsOf_nil hAppend_own newsH_own newsH_lst newsH_nil arr2_eq newsA_t newsA_f newsS_str hAppend_nil hAppR_hl hAppH_eq hAppR_eq hAppN_eq leafs_nil leafs_cons hEq_eq hEq_ptr hEq_elt hConv_str hConv_own hConv_lst hConvR_eq hConvL_eq bytesH_nil bytesH_cons hEqL_eq hCall_eq ats0_eq oneAll_eq hf_v hf_own hf_vw hf_ptr hf_lst hfs_nil hfs_cons fone_v fone_lst hone_v hone_lst hone_own hone_ptr fh_v fh_lst one_int hcellv_int one_bool hcellv_bool one_str hcellv_str one_slice hcellv_slice one_ptr hcellv_ptr hcells_agg hcells_lst hcells_own hcells_ptr splice_eq kill_eq row_eq set_some set_none rep_eq hrep_nil hrep_cons ekill_nil ekill_cons skill_nil skill_cons rkill_sl rkill_hl rkill_bx hkill_v hren_v hsub_v hkill_lst hren_lst hsub_lst hkill_elt hren_elt hsub_elt hkill_junk hren_junk hsub_junk hkill_own hkill_ptr hkill_agg hkill_tup hren_own hren_ptr hren_agg hren_tup hsub_own hsub_ptr hsub_agg hsub_tup rren_sl rren_hl rren_bx rsub_sl rsub_hl rsub_bx only_eq eight_eq sh_eq adds_eq radds_nil radds_cons rest_eq esub_nil esub_cons ssub_nil ssub_cons sset_nil sset_cons hG_none hG_some hGv_bool hGv_tup hgo_go hgo_call hgo_eqn hgo_bytes hgo_eq hgo1_eq hpre_move hpre_assign hpre_pick hpre_extract hpre_field hpre_faddr hpre_nilc hpre_iaddr hpre_slice hpre_load hpre_build hpre_bin hpre_un hpre_conv hpre_index hpre_call hpre_alloc hpre_box hpre_make hpre_store hpre_buildS ownsS_eq ownsR_sl ownsR_bx ownsP_eq ownIds_own ownIds_v ownIds_lst ownIds_agg ownCell_own ownCell_v ownCell_lst restAll_nil restAll_cons restOne_eq ownsR_hl hskip_eq hstep_yes hstep_no hstep_ask hv2_nil hv2_cons hgoq_go hgoq_call hgoq_eqn hgoq_eq hstepq_yes hstepq_no hstepq_ask hvq_nil hvq_cons slotX_tmp slotX_const slotX_global slotX_func slotsL_nil slotsL_cons slotsP_nil slotsP_cons slotO_some slotO_none slotsOf_move slotsOf_assign slotsOf_nilc slotsOf_pick slotsOf_extract slotsOf_field slotsOf_faddr slotsOf_load slotsOf_un slotsOf_conv slotsOf_iaddr slotsOf_index slotsOf_slice slotsOf_bin slotsOf_build slotsOf_buildS slotsOf_makeS slotsOf_call slotG_none slotG_some pickE_nil pickE_cons plainE_nil plainE_v plainE_lst plainE_agg hmade_eq made_buildS made_makeS quiet_buildS quiet_makeS hgor_go hgor_call hgor_eqn hgor_eq hstepr_yes hstepr_no hstepr_ask hvr_nil hvr_cons idOf_some idOf_none quiet_move quiet_assign quiet_pick quiet_extract quiet_field quiet_faddr quiet_nilc quiet_iaddr quiet_slice quiet_load quiet_build quiet_bin quiet_un quiet_conv quiet_index quiet_len quiet_min argsH_nil argsH_cons heff_index hIndexA_agg heff_copy hCopy_own hCopy_vw hCopyR_own hCopyR_vw hCopyN_some
 nthO_nil nthO_cons sh2_eq inL_nil inL_cons isSl_none isSl_sl isSl_bx isSl_hl isBx_hl dark_hl flag_hl flag_ohl isBx_none isBx_sl isBx_t isBx_f turned_eq gone_eq oldRow_eq dark_sl dark_bx flag_none flag_sl flag_bx flag_osl dpick_nil dpick_cons swp_nil swp_cons swap_eq
attribute [push_cast] ac105 bb4 bd105 bd109 bd114 bd29 bd43 bd53 bd77 bd87 bd95 bd99 cb9_102 fo109_0 fo109_1 fo109_2 fo109_3 fo109_4 fo109_5 fo109_6 fo119_0 fo119_1 fo29_0 fo29_1 fo53_0 fo53_1 fo53_2 fo77_0 fo77_1 fo77_2 fo77_3 fo87_0 fo87_1 fo95_0 fo95_1 fo95_2 fo95_3 it129 it136 it139 it3 kt102 kt109 kt117 kt22 kt29 kt3 kt4 kt43 kt5 kt53 kt70 kt77 kt85 kt87 kt89 kt9 kt91 kt95 pp117 pt105_0 pt105_1 pt105_2 pt109_0 pt109_1 pt109_2 pt114_0 pt114_1 pt114_2 pt29_0 pt29_1 pt43_0 pt43_1 pt53_0 pt53_1 pt53_2 pt77_0 pt77_1 pt77_2 pt77_3 pt87_0 pt87_1 pt95_0 pt95_1 pt95_2 pt95_3 pt99_0 pt99_1 pt99_2 pt99_3 se102 se112 se115 se22 se23 se36 se45 se51 se70 se85 se91 se93 se97 sf102 st9 ua114 ua43 ua99 ui117 ui129 ui133 ui136 ui139 ui3 ui5 ui9 us102 us112 us115 us22 us23 us36 us45 us51 us70 us85 us91 us93 us97 zt105 zt109 zt114 zt119 zt29 zt43 zt53 zt77 zt87 zt95 zt99
attribute [push_cast] Int.toNat_natCast cond_true' ltT ltF leT leF eqT eqF getD_map wr64 toNat_succ toNat_add
end Go.Proofs.Ytlfenddhppoflaa
