/-
  Facts of the types, the functions' names.
-/
import Derived.Test.YtdfjeokjmigkaaaGreatGc
import Derived.Test.YtdfjeokjmigkaaaGreatProg
namespace Go.Proofs.YtdfjeokjmigkaaaGreat
open Go Go.Eng
theorem mixed : Tryz.prog.follows .mixedOrders = true := by kernel_rfl
theorem ac65 : aCell Tryz.prog 65 = some 3 := by kernel_rfl
theorem ac86 : aCell Tryz.prog 86 = some 3 := by kernel_rfl
theorem bb4 : uBool Tryz.prog 4 = true := by kernel_rfl
theorem bd112 : buildable Tryz.prog 112 = true := by kernel_rfl
theorem bd143 : buildable Tryz.prog 143 = true := by kernel_rfl
theorem bd158 : buildable Tryz.prog 158 = true := by kernel_rfl
theorem bd31 : buildable Tryz.prog 31 = true := by kernel_rfl
theorem bd33 : buildable Tryz.prog 33 = true := by kernel_rfl
theorem bd50 : buildable Tryz.prog 50 = true := by kernel_rfl
theorem bd53 : buildable Tryz.prog 53 = true := by kernel_rfl
theorem bd65 : buildable Tryz.prog 65 = true := by kernel_rfl
theorem bd77 : buildable Tryz.prog 77 = true := by kernel_rfl
theorem bd86 : buildable Tryz.prog 86 = true := by kernel_rfl
theorem bd92 : buildable Tryz.prog 92 = true := by kernel_rfl
theorem bd98 : buildable Tryz.prog 98 = true := by kernel_rfl
theorem cb9_106 : convB Tryz.prog 9 106 = true := by kernel_rfl
theorem fo117_0 : fOff Tryz.prog 117 0 = some 0 := by kernel_rfl
theorem fo117_1 : fOff Tryz.prog 117 1 = some 1 := by kernel_rfl
theorem fo143_0 : fOff Tryz.prog 143 0 = some 0 := by kernel_rfl
theorem fo143_1 : fOff Tryz.prog 143 1 = some 1 := by kernel_rfl
theorem fo158_0 : fOff Tryz.prog 158 0 = some 0 := by kernel_rfl
theorem fo158_1 : fOff Tryz.prog 158 1 = some 1 := by kernel_rfl
theorem fo31_0 : fOff Tryz.prog 31 0 = some 0 := by kernel_rfl
theorem fo31_1 : fOff Tryz.prog 31 1 = some 1 := by kernel_rfl
theorem fo33_0 : fOff Tryz.prog 33 0 = some 0 := by kernel_rfl
theorem fo33_1 : fOff Tryz.prog 33 1 = some 1 := by kernel_rfl
theorem fo50_0 : fOff Tryz.prog 50 0 = some 0 := by kernel_rfl
theorem fo50_1 : fOff Tryz.prog 50 1 = some 1 := by kernel_rfl
theorem fo53_0 : fOff Tryz.prog 53 0 = some 0 := by kernel_rfl
theorem fo53_1 : fOff Tryz.prog 53 1 = some 1 := by kernel_rfl
theorem fo53_2 : fOff Tryz.prog 53 2 = some 2 := by kernel_rfl
theorem fo53_3 : fOff Tryz.prog 53 3 = some 3 := by kernel_rfl
theorem fo77_0 : fOff Tryz.prog 77 0 = some 0 := by kernel_rfl
theorem fo77_1 : fOff Tryz.prog 77 1 = some 1 := by kernel_rfl
theorem fo77_2 : fOff Tryz.prog 77 2 = some 2 := by kernel_rfl
theorem fo77_3 : fOff Tryz.prog 77 3 = some 3 := by kernel_rfl
theorem fo92_0 : fOff Tryz.prog 92 0 = some 0 := by kernel_rfl
theorem fo92_1 : fOff Tryz.prog 92 1 = some 1 := by kernel_rfl
theorem fo92_2 : fOff Tryz.prog 92 2 = some 2 := by kernel_rfl
theorem fo92_3 : fOff Tryz.prog 92 3 = some 3 := by kernel_rfl
theorem fo92_4 : fOff Tryz.prog 92 4 = some 4 := by kernel_rfl
theorem fo92_5 : fOff Tryz.prog 92 5 = some 5 := by kernel_rfl
theorem fo92_6 : fOff Tryz.prog 92 6 = some 6 := by kernel_rfl
theorem fp33_0 : fPart Tryz.prog 33 0 = some (0, none) := by kernel_rfl
theorem it103 : uInt Tryz.prog 103 = some .u64 := by kernel_rfl
theorem it134 : uInt Tryz.prog 134 = some .u32 := by kernel_rfl
theorem it136 : uInt Tryz.prog 136 = some .u64 := by kernel_rfl
theorem it3 : uInt Tryz.prog 3 = some .i64 := by kernel_rfl
theorem it5 : uInt Tryz.prog 5 = some .u8 := by kernel_rfl
theorem kt106 : kindT Tryz.prog 106 = some none := by kernel_rfl
theorem kt112 : kindT Tryz.prog 112 = some (some 2) := by kernel_rfl
theorem kt115 : kindT Tryz.prog 115 = some none := by kernel_rfl
theorem kt143 : kindT Tryz.prog 143 = some (some 2) := by kernel_rfl
theorem kt156 : kindT Tryz.prog 156 = some none := by kernel_rfl
theorem kt158 : kindT Tryz.prog 158 = some (some 2) := by kernel_rfl
theorem kt160 : kindT Tryz.prog 160 = some none := by kernel_rfl
theorem kt22 : kindT Tryz.prog 22 = some none := by kernel_rfl
theorem kt26 : kindT Tryz.prog 26 = some none := by kernel_rfl
theorem kt3 : kindT Tryz.prog 3 = some none := by kernel_rfl
theorem kt31 : kindT Tryz.prog 31 = some (some 2) := by kernel_rfl
theorem kt33 : kindT Tryz.prog 33 = some (some 2) := by kernel_rfl
theorem kt4 : kindT Tryz.prog 4 = some none := by kernel_rfl
theorem kt5 : kindT Tryz.prog 5 = some none := by kernel_rfl
theorem kt50 : kindT Tryz.prog 50 = some (some 3) := by kernel_rfl
theorem kt53 : kindT Tryz.prog 53 = some (some 4) := by kernel_rfl
theorem kt59 : kindT Tryz.prog 59 = some none := by kernel_rfl
theorem kt64 : kindT Tryz.prog 64 = some none := by kernel_rfl
theorem kt73 : kindT Tryz.prog 73 = some none := by kernel_rfl
theorem kt77 : kindT Tryz.prog 77 = some (some 4) := by kernel_rfl
theorem kt88 : kindT Tryz.prog 88 = some none := by kernel_rfl
theorem kt9 : kindT Tryz.prog 9 = some none := by kernel_rfl
theorem kt92 : kindT Tryz.prog 92 = some (some 7) := by kernel_rfl
theorem pp115 : uPtr Tryz.prog 115 = true := by kernel_rfl
theorem pt112_0 : partT Tryz.prog 112 0 = some (0, 1) := by kernel_rfl
theorem pt112_1 : partT Tryz.prog 112 1 = some (1, 1) := by kernel_rfl
theorem pt143_0 : partT Tryz.prog 143 0 = some (0, 1) := by kernel_rfl
theorem pt143_1 : partT Tryz.prog 143 1 = some (1, 1) := by kernel_rfl
theorem pt158_0 : partT Tryz.prog 158 0 = some (0, 1) := by kernel_rfl
theorem pt158_1 : partT Tryz.prog 158 1 = some (1, 1) := by kernel_rfl
theorem pt31_0 : partT Tryz.prog 31 0 = some (0, 1) := by kernel_rfl
theorem pt31_1 : partT Tryz.prog 31 1 = some (1, 1) := by kernel_rfl
theorem pt33_0 : partT Tryz.prog 33 0 = some (0, 1) := by kernel_rfl
theorem pt33_1 : partT Tryz.prog 33 1 = some (1, 1) := by kernel_rfl
theorem pt50_0 : partT Tryz.prog 50 0 = some (0, 1) := by kernel_rfl
theorem pt50_1 : partT Tryz.prog 50 1 = some (1, 2) := by kernel_rfl
theorem pt53_0 : partT Tryz.prog 53 0 = some (0, 1) := by kernel_rfl
theorem pt53_1 : partT Tryz.prog 53 1 = some (1, 1) := by kernel_rfl
theorem pt53_2 : partT Tryz.prog 53 2 = some (2, 1) := by kernel_rfl
theorem pt65_0 : partT Tryz.prog 65 0 = some (0, 1) := by kernel_rfl
theorem pt65_1 : partT Tryz.prog 65 1 = some (1, 1) := by kernel_rfl
theorem pt65_2 : partT Tryz.prog 65 2 = some (2, 1) := by kernel_rfl
theorem pt77_0 : partT Tryz.prog 77 0 = some (0, 1) := by kernel_rfl
theorem pt77_1 : partT Tryz.prog 77 1 = some (1, 1) := by kernel_rfl
theorem pt77_2 : partT Tryz.prog 77 2 = some (2, 1) := by kernel_rfl
theorem pt77_3 : partT Tryz.prog 77 3 = some (3, 1) := by kernel_rfl
theorem pt86_0 : partT Tryz.prog 86 0 = some (0, 1) := by kernel_rfl
theorem pt86_1 : partT Tryz.prog 86 1 = some (1, 1) := by kernel_rfl
theorem pt86_2 : partT Tryz.prog 86 2 = some (2, 1) := by kernel_rfl
theorem pt92_0 : partT Tryz.prog 92 0 = some (0, 1) := by kernel_rfl
theorem pt92_1 : partT Tryz.prog 92 1 = some (1, 1) := by kernel_rfl
theorem pt92_2 : partT Tryz.prog 92 2 = some (2, 1) := by kernel_rfl
theorem pt98_0 : partT Tryz.prog 98 0 = some (0, 1) := by kernel_rfl
theorem pt98_1 : partT Tryz.prog 98 1 = some (1, 1) := by kernel_rfl
theorem pt98_2 : partT Tryz.prog 98 2 = some (2, 1) := by kernel_rfl
theorem se106 : seOf Tryz.prog 106 = some (5, 1, 1, #[.int .u8 0]) := by kernel_rfl
theorem se108 : seOf Tryz.prog 108 = some (112, 2, 16, #[.int .i64 0, .int .i64 0]) := by kernel_rfl
theorem se139 : seOf Tryz.prog 139 = some (143, 2, 16, #[.int .i64 0, .int .i64 0]) := by kernel_rfl
theorem se156 : seOf Tryz.prog 156 = some (160, 1, 2, #[.int .i16 0]) := by kernel_rfl
theorem se168 : seOf Tryz.prog 168 = some (88, 1, 24, #[.slice none 0 0]) := by kernel_rfl
theorem se22 : seOf Tryz.prog 22 = some (50, 3, 40, #[.string ByteArray.empty, .int .i64 0, .string ByteArray.empty]) := by kernel_rfl
theorem se26 : seOf Tryz.prog 26 = some (31, 2, 24, #[.string ByteArray.empty, .int .i64 0]) := by kernel_rfl
theorem se59 : seOf Tryz.prog 59 = some (9, 1, 16, #[.string ByteArray.empty]) := by kernel_rfl
theorem se73 : seOf Tryz.prog 73 = some (77, 4, 80, #[.bool false, .slice none 0 0, .slice none 0 0, .slice none 0 0]) := by kernel_rfl
theorem se88 : seOf Tryz.prog 88 = some (3, 1, 8, #[.int .i64 0]) := by kernel_rfl
theorem se96 : seOf Tryz.prog 96 = some (98, 3, 24, #[.int .i64 0, .int .i64 0, .int .i64 0]) := by kernel_rfl
theorem sf106 : uStr Tryz.prog 106 = false := by kernel_rfl
theorem st9 : uStr Tryz.prog 9 = true := by kernel_rfl
theorem ua112 : uArr Tryz.prog 112 = some (2, 1) := by kernel_rfl
theorem ua98 : uArr Tryz.prog 98 = some (3, 1) := by kernel_rfl
theorem ui103 : (Tryz.prog.underlying 103).isSome = true := by kernel_rfl
theorem ui115 : (Tryz.prog.underlying 115).isSome = true := by kernel_rfl
theorem ui134 : (Tryz.prog.underlying 134).isSome = true := by kernel_rfl
theorem ui136 : (Tryz.prog.underlying 136).isSome = true := by kernel_rfl
theorem ui165 : (Tryz.prog.underlying 165).isSome = true := by kernel_rfl
theorem ui3 : (Tryz.prog.underlying 3).isSome = true := by kernel_rfl
theorem ui5 : (Tryz.prog.underlying 5).isSome = true := by kernel_rfl
theorem ui9 : (Tryz.prog.underlying 9).isSome = true := by kernel_rfl
theorem us106 : uSlice Tryz.prog 106 = some (5, 1) := by kernel_rfl
theorem us108 : uSlice Tryz.prog 108 = some (112, 2) := by kernel_rfl
theorem us139 : uSlice Tryz.prog 139 = some (143, 2) := by kernel_rfl
theorem us156 : uSlice Tryz.prog 156 = some (160, 1) := by kernel_rfl
theorem us168 : uSlice Tryz.prog 168 = some (88, 1) := by kernel_rfl
theorem us22 : uSlice Tryz.prog 22 = some (50, 3) := by kernel_rfl
theorem us26 : uSlice Tryz.prog 26 = some (31, 2) := by kernel_rfl
theorem us59 : uSlice Tryz.prog 59 = some (9, 1) := by kernel_rfl
theorem us73 : uSlice Tryz.prog 73 = some (77, 4) := by kernel_rfl
theorem us88 : uSlice Tryz.prog 88 = some (3, 1) := by kernel_rfl
theorem us96 : uSlice Tryz.prog 96 = some (98, 3) := by kernel_rfl
theorem zt112 : zeroT Tryz.prog 112 = some #[.int .i64 0, .int .i64 0] := by kernel_rfl
theorem zt117 : zeroT Tryz.prog 117 = some #[.pointer none, .slice none 0 0] := by kernel_rfl
theorem zt143 : zeroT Tryz.prog 143 = some #[.int .i64 0, .int .i64 0] := by kernel_rfl
theorem zt158 : zeroT Tryz.prog 158 = some #[.int .i64 0, .slice none 0 0] := by kernel_rfl
theorem zt3 : zeroT Tryz.prog 3 = some #[.int .i64 0] := by kernel_rfl
theorem zt31 : zeroT Tryz.prog 31 = some #[.string ByteArray.empty, .int .i64 0] := by kernel_rfl
theorem zt33 : zeroT Tryz.prog 33 = some #[.int .i64 0, .string ByteArray.empty] := by kernel_rfl
theorem zt50 : zeroT Tryz.prog 50 = some #[.string ByteArray.empty, .int .i64 0, .string ByteArray.empty] := by kernel_rfl
theorem zt53 : zeroT Tryz.prog 53 = some #[.slice none 0 0, .slice none 0 0, .slice none 0 0, .slice none 0 0] := by kernel_rfl
theorem zt59 : zeroT Tryz.prog 59 = some #[.slice none 0 0] := by kernel_rfl
theorem zt64 : zeroT Tryz.prog 64 = some #[.map none] := by kernel_rfl
theorem zt65 : zeroT Tryz.prog 65 = some #[.slice none 0 0, .slice none 0 0, .slice none 0 0] := by kernel_rfl
theorem zt77 : zeroT Tryz.prog 77 = some #[.bool false, .slice none 0 0, .slice none 0 0, .slice none 0 0] := by kernel_rfl
theorem zt86 : zeroT Tryz.prog 86 = some #[.string ByteArray.empty, .string ByteArray.empty, .string ByteArray.empty] := by kernel_rfl
theorem zt92 : zeroT Tryz.prog 92 = some #[.slice none 0 0, .slice none 0 0, .slice none 0 0, .int .i64 0, .int .i64 0, .int .i64 0, .slice none 0 0] := by kernel_rfl
theorem zt98 : zeroT Tryz.prog 98 = some #[.int .i64 0, .int .i64 0, .int .i64 0] := by kernel_rfl
theorem cl9 : callable Tryz.prog 9 = true := by kernel_rfl
theorem cl10 : callable Tryz.prog 10 = true := by kernel_rfl
theorem cl12 : callable Tryz.prog 12 = true := by kernel_rfl
theorem cl16 : callable Tryz.prog 16 = true := by kernel_rfl
theorem cl21 : callable Tryz.prog 21 = true := by kernel_rfl
theorem cl22 : callable Tryz.prog 22 = true := by kernel_rfl
theorem cl26 : callable Tryz.prog 26 = true := by kernel_rfl
theorem cl27 : callable Tryz.prog 27 = true := by kernel_rfl
theorem cl28 : callable Tryz.prog 28 = true := by kernel_rfl
theorem cl34 : callable Tryz.prog 34 = true := by kernel_rfl
theorem cl35 : callable Tryz.prog 35 = true := by kernel_rfl
theorem cl36 : callable Tryz.prog 36 = true := by kernel_rfl
theorem cl37 : callable Tryz.prog 37 = true := by kernel_rfl
theorem cl38 : callable Tryz.prog 38 = true := by kernel_rfl
theorem cl39 : callable Tryz.prog 39 = true := by kernel_rfl
theorem cl40 : callable Tryz.prog 40 = true := by kernel_rfl
theorem cl41 : callable Tryz.prog 41 = true := by kernel_rfl
theorem cl42 : callable Tryz.prog 42 = true := by kernel_rfl
theorem cl43 : callable Tryz.prog 43 = true := by kernel_rfl
theorem cl52 : callable Tryz.prog 52 = true := by kernel_rfl
theorem cl53 : callable Tryz.prog 53 = true := by kernel_rfl
theorem cl54 : callable Tryz.prog 54 = true := by kernel_rfl
theorem cl55 : callable Tryz.prog 55 = true := by kernel_rfl
theorem cl59 : callable Tryz.prog 59 = true := by kernel_rfl
theorem cl60 : callable Tryz.prog 60 = true := by kernel_rfl
theorem cl61 : callable Tryz.prog 61 = true := by kernel_rfl
theorem cl62 : callable Tryz.prog 62 = true := by kernel_rfl
theorem cl73 : callable Tryz.prog 73 = true := by kernel_rfl
theorem cl74 : callable Tryz.prog 74 = true := by kernel_rfl
theorem cl78 : callable Tryz.prog 78 = true := by kernel_rfl
theorem cl79 : callable Tryz.prog 79 = true := by kernel_rfl
theorem cl90 : callable Tryz.prog 90 = true := by kernel_rfl
theorem cl105 : callable Tryz.prog 105 = true := by kernel_rfl
theorem cl106 : callable Tryz.prog 106 = true := by kernel_rfl
theorem cl107 : callable Tryz.prog 107 = true := by kernel_rfl
attribute [push_cast] ev_tmp ev_const ev_global ev_func evs_nil evs_cons stp_some stp_none dsts_nil dsts_cons argsE_nil argsE_cons intBin_add intBin_sub intBin_mul intBin_quo intBin_rem intBin_and intBin_or intBin_xor intBin_andNot intBin_eql intBin_neq intBin_lss intBin_leq intBin_gtr intBin_geq intBin_shl intBin_shr strBin_add strBin_eql strBin_neq strBin_lss strBin_leq strBin_gtr strBin_geq pureBin_int pureBin_str pureBin_beq pureBin_bne pureBin_peq pureBin_pne pureBin_seq pureBin_sne pureBin_agg effEq_eql effEq_neq pureUn_not pureUn_neg pureUn_xor pureConv_int pureConv_str pureField_eq pureIndexAddr_s pureIndexAddr_p pureIndex_s oInt_none oInt_some pureSlice_str pureSlice_sl pureB_len pureB_lens pureB_cap pureB_max pureB_min pureB_app pureB_copy po_move po_assign po_pick po_bin po_un po_conv po_field po_extract po_faddr po_iaddr po_index po_slice po_nil po_builtin po_call po_load po_store po_alloc po_box po_build po_buildS po_makeS eo_load eo_store eo_build eo_buildS eo_makeS eo_app eo_call eo_bin eq_load eq_build eq_call eq_bin parts_nil parts_cons outG_none outG_some dstOk_none dstOk_some out_eq outR_eq outOp_eq outQ_eq imm_load immQ_load imm_alloc imm_box imm_store imm_build imm_call imm_bin immQ_build immQ_call immQ_bin imm_buildS imm_makeS v2_nil v2_cons vq_nil vq_cons undef_eq
attribute [push_cast] List.take_succ_cons List.take_zero List.drop_succ_cons List.drop_zero true_and and_true Option.isSome_some List.getElem?_cons_zero List.getElem?_cons_succ List.length_cons List.length_nil cond_true cond_false Int.toNat_natCast Nat.mul_one Nat.add_zero Nat.zero_add Addr.add_lit bne_self_eq_false beq_self_eq_true Bool.not_true Bool.not_false List.size_toArray Array.getD_eq_getD_getElem? List.getElem?_toArray Option.getD_some decide_true decide_false eq_self Bool.true_beq Bool.false_beq List.getD_cons_zero List.getD_cons_succ List.map_cons List.map_nil List.set_cons_zero List.set_cons_succ List.replicate_zero List.toList_toArray List.all_toArray List.all_cons List.all_nil Bool.and_self Bool.and_true Bool.true_and Bool.and_false Bool.false_and List.length_map List.length_append List.length_replicate List.length_set List.cons_append List.nil_append cond_triv Option.isSome_some Option.isSome_none beq_true beq_false Bool.not_false Option.map_some Bool.true_or Bool.false_or Bool.or_true Bool.or_false Bool.false_xor Bool.true_xor and_self beq_self_eq_true fv_default List.flatMap_cons List.flatMap_nil List.append_nil
attribute [push_cast] lk_lo zS zM zX zU hev_tmp hev_const hev_global hev_func hevs_nil hevs_cons leaf_v leaf_none leaf_lst leaf_own leaf_ptr leaf_elt leaf_agg leaf_tup leaf_vw leaf_junk hPure_some hPure_none hop_eq heff_move heff_assign heff_pick heff_extract heff_field heff_faddr heff_nilc heff_iaddr heff_slice heff_load heff_store heff_alloc heff_box heff_build heff_buildS heff_makeS heff_len heff_app heff_callf heff_eql heff_neq heff_conv hMove_eq hPick_eq hExtract_eq hField_one hField_sub hFAddr_ptr hFAddr_elt hNil_ptr hNil_elt hIAddr_own hIAddr_lst hIAddr_ptr hIAddr_elt hIAddrR_eq hIAddrL_eq hIAddrP_eq hIAddrE_eq hLen_vw hSlice_own hSlice_vw hSliceR_eq hSliceV_eq rlen_sl hIAddr_vw hIAddrV_eq newsOf_vw hcells_vw hone_vw hkill_vw hren_vw hsub_vw ownIds_vw ownCell_vw hLen_own hLen_lst hLenR_hl hIAddrR_hl hLenR_eq hSlice_eq hSliceL_eq hLoad_ptr hLoad_elt hLoadR_sl hLoadR_sla hLoadR_bx hLoadR_bxa hLoadR_hl hLoadR_hla hStoreR_hl hStoreH_one hStoreH_agg hLoadE_one hLoadE_agg hStore_eq hStoreR_sl hStoreR_bx hStoreS_one hStoreS_agg hStoreB_one hStoreB_agg hAlloc_eq hBox_eq hBoxC_eq partsH_nil partsH_cons hfill_nil hfill_cons hBuild_eq hBuildF_eq hlit_nil hlit_cons hBuildS_eq allF_nil allF_cons hlitH_nil hlitH_cons hkl_eq hBuildSE_t hBuildSE_f hBuildSH_eq hBuildSF_eq hMake_eq newsOf_own newsOf_lst newsOf_nil hAppend_own newsH_own newsH_lst newsH_nil arr2_eq newsA_t newsA_f newsS_str hAppend_nil hAppR_hl hAppH_eq hAppR_eq hAppN_eq leafs_nil leafs_cons hEq_eq hEq_ptr hEq_elt hConv_str hConv_own hConv_lst hConvR_eq hConvL_eq bytesH_nil bytesH_cons hEqL_eq hCall_eq ats0_eq oneAll_eq hf_v hf_own hf_vw hf_ptr hf_lst hfs_nil hfs_cons fone_v fone_lst hone_v hone_lst hone_own hone_ptr fh_v fh_lst one_int hcellv_int one_bool hcellv_bool one_str hcellv_str one_slice hcellv_slice one_ptr hcellv_ptr hcells_agg hcells_lst hcells_own hcells_ptr splice_eq kill_eq row_eq set_some set_none rep_eq hrep_nil hrep_cons ekill_nil ekill_cons skill_nil skill_cons rkill_sl rkill_hl rkill_bx hkill_v hren_v hsub_v hkill_lst hren_lst hsub_lst hkill_elt hren_elt hsub_elt hkill_junk hren_junk hsub_junk hkill_own hkill_ptr hkill_agg hkill_tup hren_own hren_ptr hren_agg hren_tup hsub_own hsub_ptr hsub_agg hsub_tup rren_sl rren_hl rren_bx rsub_sl rsub_hl rsub_bx only_eq eight_eq sh_eq adds_eq radds_nil radds_cons rest_eq esub_nil esub_cons ssub_nil ssub_cons sset_nil sset_cons hG_none hG_some hGv_bool hGv_tup hgo_go hgo_call hgo_eqn hgo_bytes hgo_eq hgo1_eq hpre_move hpre_assign hpre_pick hpre_extract hpre_field hpre_faddr hpre_nilc hpre_iaddr hpre_slice hpre_load hpre_build hpre_bin hpre_un hpre_conv hpre_index hpre_call hpre_alloc hpre_box hpre_make hpre_store hpre_buildS ownsS_eq ownsR_sl ownsR_bx ownsP_eq ownIds_own ownIds_v ownIds_lst ownIds_agg ownCell_own ownCell_v ownCell_lst restAll_nil restAll_cons restOne_eq ownsR_hl hskip_eq hstep_yes hstep_no hstep_ask hv2_nil hv2_cons hgoq_go hgoq_call hgoq_eqn hgoq_eq hstepq_yes hstepq_no hstepq_ask hvq_nil hvq_cons slotX_tmp slotX_const slotX_global slotX_func slotsL_nil slotsL_cons slotsP_nil slotsP_cons slotO_some slotO_none slotsOf_move slotsOf_assign slotsOf_nilc slotsOf_pick slotsOf_extract slotsOf_field slotsOf_faddr slotsOf_load slotsOf_un slotsOf_conv slotsOf_iaddr slotsOf_index slotsOf_slice slotsOf_bin slotsOf_build slotsOf_buildS slotsOf_makeS slotsOf_call slotG_none slotG_some pickE_nil pickE_cons plainE_nil plainE_v plainE_lst plainE_agg hmade_eq made_buildS made_makeS quiet_buildS quiet_makeS hgor_go hgor_call hgor_eqn hgor_eq hstepr_yes hstepr_no hstepr_ask hvr_nil hvr_cons idOf_some idOf_none quiet_move quiet_assign quiet_pick quiet_extract quiet_field quiet_faddr quiet_nilc quiet_iaddr quiet_slice quiet_load quiet_build quiet_bin quiet_un quiet_conv quiet_index quiet_len quiet_min argsH_nil argsH_cons heff_index hIndexA_agg heff_copy hCopy_own hCopy_vw hCopyR_own hCopyR_vw hCopyN_some slotsC_value slotsC_builtin heff_callt fnH_v hCallV_some
 nthO_nil nthO_cons sh2_eq inL_nil inL_cons isSl_none isSl_sl isSl_bx isSl_hl isBx_hl dark_hl flag_hl flag_ohl isBx_none isBx_sl isBx_t isBx_f turned_eq gone_eq oldRow_eq dark_sl dark_bx flag_none flag_sl flag_bx flag_osl dpick_nil dpick_cons swp_nil swp_cons swap_eq cond_true' ltT ltF leT leF eqT eqF getD_map wr64 toNat_succ toNat_add
attribute [push_cast] ac65 ac86 bb4 bd112 bd143 bd158 bd31 bd33 bd50 bd53 bd65 bd77 bd86 bd92 bd98 cb9_106 fo117_0 fo117_1 fo143_0 fo143_1 fo158_0 fo158_1 fo31_0 fo31_1 fo33_0 fo33_1 fo50_0 fo50_1 fo53_0 fo53_1 fo53_2 fo53_3 fo77_0 fo77_1 fo77_2 fo77_3 fo92_0 fo92_1 fo92_2 fo92_3 fo92_4 fo92_5 fo92_6 fp33_0 it103 it134 it136 it3 it5 kt106 kt112 kt115 kt143 kt156 kt158 kt160 kt22 kt26 kt3 kt31 kt33 kt4 kt5 kt50 kt53 kt59 kt64 kt73 kt77 kt88 kt9 kt92 pp115 pt112_0 pt112_1 pt143_0 pt143_1 pt158_0 pt158_1 pt31_0 pt31_1 pt33_0 pt33_1 pt50_0 pt50_1 pt53_0 pt53_1 pt53_2 pt65_0 pt65_1 pt65_2 pt77_0 pt77_1 pt77_2 pt77_3 pt86_0 pt86_1 pt86_2 pt92_0 pt92_1 pt92_2 pt98_0 pt98_1 pt98_2 se106 se108 se139 se156 se168 se22 se26 se59 se73 se88 se96 sf106 st9 ua112 ua98 ui103 ui115 ui134 ui136 ui165 ui3 ui5 ui9 us106 us108 us139 us156 us168 us22 us26 us59 us73 us88 us96 zt112 zt117 zt143 zt158 zt3 zt31 zt33 zt50 zt53 zt59 zt64 zt65 zt77 zt86 zt92 zt98
attribute [push_cast] ev_tmp ev_const ev_global ev_func evs_nil evs_cons stp_some stp_none dsts_nil dsts_cons argsE_nil argsE_cons intBin_add intBin_sub intBin_mul intBin_quo intBin_rem intBin_and intBin_or intBin_xor intBin_andNot intBin_eql intBin_neq intBin_lss intBin_leq intBin_gtr intBin_geq intBin_shl intBin_shr strBin_add strBin_eql strBin_neq strBin_lss strBin_leq strBin_gtr strBin_geq pureBin_int pureBin_str pureBin_beq pureBin_bne pureBin_peq pureBin_pne pureBin_seq pureBin_sne pureBin_agg effEq_eql effEq_neq pureUn_not pureUn_neg pureUn_xor pureConv_int pureConv_str pureField_eq pureIndexAddr_s pureIndexAddr_p pureIndex_s oInt_none oInt_some pureSlice_str pureSlice_sl pureB_len pureB_lens pureB_cap pureB_max pureB_min pureB_app pureB_copy po_move po_assign po_pick po_bin po_un po_conv po_field po_extract po_faddr po_iaddr po_index po_slice po_nil po_builtin po_call po_load po_store po_alloc po_box po_build po_buildS po_makeS eo_load eo_store eo_build eo_buildS eo_makeS eo_app eo_call eo_bin eq_load eq_build eq_call eq_bin parts_nil parts_cons outG_none outG_some dstOk_none dstOk_some out_eq outR_eq outOp_eq outQ_eq imm_load immQ_load imm_alloc imm_box imm_store imm_build imm_call imm_bin immQ_build immQ_call immQ_bin imm_buildS imm_makeS v2_nil v2_cons vq_nil vq_cons undef_eq
attribute [push_cast] List.take_succ_cons List.take_zero List.drop_succ_cons List.drop_zero true_and and_true Option.isSome_some List.getElem?_cons_zero List.getElem?_cons_succ List.length_cons List.length_nil cond_true cond_false Int.toNat_natCast Nat.mul_one Nat.add_zero Nat.zero_add Addr.add_lit bne_self_eq_false beq_self_eq_true Bool.not_true Bool.not_false List.size_toArray Array.getD_eq_getD_getElem? List.getElem?_toArray Option.getD_some decide_true decide_false eq_self Bool.true_beq Bool.false_beq List.getD_cons_zero List.getD_cons_succ List.map_cons List.map_nil List.set_cons_zero List.set_cons_succ List.replicate_zero List.toList_toArray List.all_toArray List.all_cons List.all_nil Bool.and_self Bool.and_true Bool.true_and Bool.and_false Bool.false_and List.length_map List.length_append List.length_replicate List.length_set List.cons_append List.nil_append cond_triv Option.isSome_some Option.isSome_none beq_true beq_false Bool.not_false Option.map_some Bool.true_or Bool.false_or Bool.or_true Bool.or_false Bool.false_xor Bool.true_xor and_self beq_self_eq_true fv_default List.flatMap_cons List.flatMap_nil List.append_nil
attribute [push_cast] lk_lo zS zM zX zU hev_tmp hev_const hev_global hev_func hevs_nil hevs_cons leaf_v leaf_none leaf_lst leaf_own leaf_ptr leaf_elt leaf_agg leaf_tup leaf_vw leaf_junk hPure_some hPure_none hop_eq heff_move heff_assign heff_pick heff_extract heff_field heff_faddr heff_nilc heff_iaddr heff_slice heff_load heff_store heff_alloc heff_box heff_build heff_buildS heff_makeS heff_len heff_app heff_callf heff_eql heff_neq heff_conv hMove_eq hPick_eq hExtract_eq hField_one hField_sub hFAddr_ptr hFAddr_elt hNil_ptr hNil_elt hIAddr_own hIAddr_lst hIAddr_ptr hIAddr_elt hIAddrR_eq hIAddrL_eq hIAddrP_eq hIAddrE_eq hLen_vw hSlice_own hSlice_vw hSliceR_eq hSliceV_eq rlen_sl hIAddr_vw hIAddrV_eq newsOf_vw hcells_vw hone_vw hkill_vw hren_vw hsub_vw ownIds_vw ownCell_vw hLen_own hLen_lst hLenR_hl hIAddrR_hl hLenR_eq hSlice_eq hSliceL_eq hLoad_ptr hLoad_elt hLoadR_sl hLoadR_sla hLoadR_bx hLoadR_bxa hLoadR_hl hLoadR_hla hStoreR_hl hStoreH_one hStoreH_agg hLoadE_one hLoadE_agg hStore_eq hStoreR_sl hStoreR_bx hStoreS_one hStoreS_agg hStoreB_one hStoreB_agg hAlloc_eq hBox_eq hBoxC_eq partsH_nil partsH_cons hfill_nil hfill_cons hBuild_eq hBuildF_eq hlit_nil hlit_cons hBuildS_eq allF_nil allF_cons hlitH_nil hlitH_cons hkl_eq hBuildSE_t hBuildSE_f hBuildSH_eq hBuildSF_eq hMake_eq newsOf_own newsOf_lst newsOf_nil hAppend_own newsH_own newsH_lst newsH_nil arr2_eq newsA_t newsA_f newsS_str hAppend_nil hAppR_hl hAppH_eq hAppR_eq hAppN_eq leafs_nil leafs_cons hEq_eq hEq_ptr hEq_elt hConv_str hConv_own hConv_lst hConvR_eq hConvL_eq bytesH_nil bytesH_cons hEqL_eq hCall_eq ats0_eq oneAll_eq hf_v hf_own hf_vw hf_ptr hf_lst hfs_nil hfs_cons fone_v fone_lst hone_v hone_lst hone_own hone_ptr fh_v fh_lst one_int hcellv_int one_bool hcellv_bool one_str hcellv_str one_slice hcellv_slice one_ptr hcellv_ptr hcells_agg hcells_lst hcells_own hcells_ptr splice_eq kill_eq row_eq set_some set_none rep_eq hrep_nil hrep_cons ekill_nil ekill_cons skill_nil skill_cons rkill_sl rkill_hl rkill_bx hkill_v hren_v hsub_v hkill_lst hren_lst hsub_lst hkill_elt hren_elt hsub_elt hkill_junk hren_junk hsub_junk hkill_own hkill_ptr hkill_agg hkill_tup hren_own hren_ptr hren_agg hren_tup hsub_own hsub_ptr hsub_agg hsub_tup rren_sl rren_hl rren_bx rsub_sl rsub_hl rsub_bx only_eq eight_eq sh_eq adds_eq radds_nil radds_cons rest_eq esub_nil esub_cons ssub_nil ssub_cons sset_nil sset_cons hG_none hG_some hGv_bool hGv_tup hgo_go hgo_call hgo_eqn hgo_bytes hgo_eq hgo1_eq hpre_move hpre_assign hpre_pick hpre_extract hpre_field hpre_faddr hpre_nilc hpre_iaddr hpre_slice hpre_load hpre_build hpre_bin hpre_un hpre_conv hpre_index hpre_call hpre_alloc hpre_box hpre_make hpre_store hpre_buildS ownsS_eq ownsR_sl ownsR_bx ownsP_eq ownIds_own ownIds_v ownIds_lst ownIds_agg ownCell_own ownCell_v ownCell_lst restAll_nil restAll_cons restOne_eq ownsR_hl hskip_eq hstep_yes hstep_no hstep_ask hv2_nil hv2_cons hgoq_go hgoq_call hgoq_eqn hgoq_eq hstepq_yes hstepq_no hstepq_ask hvq_nil hvq_cons slotX_tmp slotX_const slotX_global slotX_func slotsL_nil slotsL_cons slotsP_nil slotsP_cons slotO_some slotO_none slotsOf_move slotsOf_assign slotsOf_nilc slotsOf_pick slotsOf_extract slotsOf_field slotsOf_faddr slotsOf_load slotsOf_un slotsOf_conv slotsOf_iaddr slotsOf_index slotsOf_slice slotsOf_bin slotsOf_build slotsOf_buildS slotsOf_makeS slotsOf_call slotG_none slotG_some pickE_nil pickE_cons plainE_nil plainE_v plainE_lst plainE_agg hmade_eq made_buildS made_makeS quiet_buildS quiet_makeS hgor_go hgor_call hgor_eqn hgor_eq hstepr_yes hstepr_no hstepr_ask hvr_nil hvr_cons idOf_some idOf_none quiet_move quiet_assign quiet_pick quiet_extract quiet_field quiet_faddr quiet_nilc quiet_iaddr quiet_slice quiet_load quiet_build quiet_bin quiet_un quiet_conv quiet_index quiet_len quiet_min argsH_nil argsH_cons heff_index hIndexA_agg heff_copy hCopy_own hCopy_vw hCopyR_own hCopyR_vw hCopyN_some slotsC_value slotsC_builtin heff_callt fnH_v hCallV_some
 nthO_nil nthO_cons sh2_eq inL_nil inL_cons isSl_none isSl_sl isSl_bx isSl_hl isBx_hl dark_hl flag_hl flag_ohl isBx_none isBx_sl isBx_t isBx_f turned_eq gone_eq oldRow_eq dark_sl dark_bx flag_none flag_sl flag_bx flag_osl dpick_nil dpick_cons swp_nil swp_cons swap_eq cond_true' ltT ltF leT leF eqT eqF getD_map wr64 toNat_succ toNat_add
attribute [push_cast] ac65 ac86 bb4 bd112 bd143 bd158 bd31 bd33 bd50 bd53 bd65 bd77 bd86 bd92 bd98 cb9_106 fo117_0 fo117_1 fo143_0 fo143_1 fo158_0 fo158_1 fo31_0 fo31_1 fo33_0 fo33_1 fo50_0 fo50_1 fo53_0 fo53_1 fo53_2 fo53_3 fo77_0 fo77_1 fo77_2 fo77_3 fo92_0 fo92_1 fo92_2 fo92_3 fo92_4 fo92_5 fo92_6 fp33_0 it103 it134 it136 it3 it5 kt106 kt112 kt115 kt143 kt156 kt158 kt160 kt22 kt26 kt3 kt31 kt33 kt4 kt5 kt50 kt53 kt59 kt64 kt73 kt77 kt88 kt9 kt92 pp115 pt112_0 pt112_1 pt143_0 pt143_1 pt158_0 pt158_1 pt31_0 pt31_1 pt33_0 pt33_1 pt50_0 pt50_1 pt53_0 pt53_1 pt53_2 pt65_0 pt65_1 pt65_2 pt77_0 pt77_1 pt77_2 pt77_3 pt86_0 pt86_1 pt86_2 pt92_0 pt92_1 pt92_2 pt98_0 pt98_1 pt98_2 se106 se108 se139 se156 se168 se22 se26 se59 se73 se88 se96 sf106 st9 ua112 ua98 ui103 ui115 ui134 ui136 ui165 ui3 ui5 ui9 us106 us108 us139 us156 us168 us22 us26 us59 us73 us88 us96 zt112 zt117 zt143 zt158 zt3 zt31 zt33 zt50 zt53 zt59 zt64 zt65 zt77 zt86 zt92 zt98
end Go.Proofs.YtdfjeokjmigkaaaGreat
