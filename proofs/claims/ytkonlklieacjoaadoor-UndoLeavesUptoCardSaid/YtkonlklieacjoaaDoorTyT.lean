/-
  Facts of the types, the functions' names.
-/
import Derived.Test.YtkonlklieacjoaaDoorGc
import Derived.Test.YtkonlklieacjoaaDoorProg
namespace Go.Proofs.YtkonlklieacjoaaDoor
open Go Go.Eng
theorem mixed : Tryd.prog.follows .mixedOrders = true := by kernel_rfl
theorem ac116 : aCell Tryd.prog 116 = some 2 := by kernel_rfl
theorem ac53 : aCell Tryd.prog 53 = some 3 := by kernel_rfl
theorem bb4 : uBool Tryd.prog 4 = true := by kernel_rfl
theorem bd103 : buildable Tryd.prog 103 = true := by kernel_rfl
theorem bd105 : buildable Tryd.prog 105 = true := by kernel_rfl
theorem bd116 : buildable Tryd.prog 116 = true := by kernel_rfl
theorem bd122 : buildable Tryd.prog 122 = true := by kernel_rfl
theorem bd124 : buildable Tryd.prog 124 = true := by kernel_rfl
theorem bd126 : buildable Tryd.prog 126 = true := by kernel_rfl
theorem bd173 : buildable Tryd.prog 173 = true := by kernel_rfl
theorem bd174 : buildable Tryd.prog 174 = true := by kernel_rfl
theorem bd24 : buildable Tryd.prog 24 = true := by kernel_rfl
theorem bd52 : buildable Tryd.prog 52 = true := by kernel_rfl
theorem bd53 : buildable Tryd.prog 53 = true := by kernel_rfl
theorem bd56 : buildable Tryd.prog 56 = true := by kernel_rfl
theorem bd58 : buildable Tryd.prog 58 = true := by kernel_rfl
theorem bd68 : buildable Tryd.prog 68 = true := by kernel_rfl
theorem fo103_0 : fOff Tryd.prog 103 0 = some 0 := by kernel_rfl
theorem fo103_1 : fOff Tryd.prog 103 1 = some 1 := by kernel_rfl
theorem fo103_2 : fOff Tryd.prog 103 2 = some 2 := by kernel_rfl
theorem fo103_3 : fOff Tryd.prog 103 3 = some 3 := by kernel_rfl
theorem fo103_4 : fOff Tryd.prog 103 4 = some 4 := by kernel_rfl
theorem fo103_5 : fOff Tryd.prog 103 5 = some 5 := by kernel_rfl
theorem fo105_0 : fOff Tryd.prog 105 0 = some 0 := by kernel_rfl
theorem fo105_1 : fOff Tryd.prog 105 1 = some 1 := by kernel_rfl
theorem fo105_3 : fOff Tryd.prog 105 3 = some 3 := by kernel_rfl
theorem fo105_4 : fOff Tryd.prog 105 4 = some 4 := by kernel_rfl
theorem fo105_5 : fOff Tryd.prog 105 5 = some 5 := by kernel_rfl
theorem fo122_0 : fOff Tryd.prog 122 0 = some 0 := by kernel_rfl
theorem fo122_1 : fOff Tryd.prog 122 1 = some 1 := by kernel_rfl
theorem fo122_2 : fOff Tryd.prog 122 2 = some 2 := by kernel_rfl
theorem fo122_3 : fOff Tryd.prog 122 3 = some 3 := by kernel_rfl
theorem fo122_4 : fOff Tryd.prog 122 4 = some 4 := by kernel_rfl
theorem fo122_5 : fOff Tryd.prog 122 5 = some 5 := by kernel_rfl
theorem fo124_0 : fOff Tryd.prog 124 0 = some 0 := by kernel_rfl
theorem fo124_1 : fOff Tryd.prog 124 1 = some 1 := by kernel_rfl
theorem fo124_2 : fOff Tryd.prog 124 2 = some 2 := by kernel_rfl
theorem fo173_0 : fOff Tryd.prog 173 0 = some 0 := by kernel_rfl
theorem fo173_1 : fOff Tryd.prog 173 1 = some 1 := by kernel_rfl
theorem fo24_0 : fOff Tryd.prog 24 0 = some 0 := by kernel_rfl
theorem fo24_1 : fOff Tryd.prog 24 1 = some 1 := by kernel_rfl
theorem fo52_3 : fOff Tryd.prog 52 3 = some 3 := by kernel_rfl
theorem fo58_0 : fOff Tryd.prog 58 0 = some 0 := by kernel_rfl
theorem fo58_2 : fOff Tryd.prog 58 2 = some 2 := by kernel_rfl
theorem fo58_3 : fOff Tryd.prog 58 3 = some 8 := by kernel_rfl
theorem fo68_0 : fOff Tryd.prog 68 0 = some 0 := by kernel_rfl
theorem fo68_1 : fOff Tryd.prog 68 1 = some 1 := by kernel_rfl
theorem fp105_0 : fPart Tryd.prog 105 0 = some (0, none) := by kernel_rfl
theorem fp105_5 : fPart Tryd.prog 105 5 = some (5, none) := by kernel_rfl
theorem fp24_0 : fPart Tryd.prog 24 0 = some (0, none) := by kernel_rfl
theorem it115 : uInt Tryd.prog 115 = some .u64 := by kernel_rfl
theorem it139 : uInt Tryd.prog 139 = some .u32 := by kernel_rfl
theorem it21 : uInt Tryd.prog 21 = some .i32 := by kernel_rfl
theorem it3 : uInt Tryd.prog 3 = some .i64 := by kernel_rfl
theorem it5 : uInt Tryd.prog 5 = some .u8 := by kernel_rfl
theorem kt100 : kindT Tryd.prog 100 = some none := by kernel_rfl
theorem kt101 : kindT Tryd.prog 101 = some none := by kernel_rfl
theorem kt105 : kindT Tryd.prog 105 = some (some 6) := by kernel_rfl
theorem kt119 : kindT Tryd.prog 119 = some none := by kernel_rfl
theorem kt120 : kindT Tryd.prog 120 = some none := by kernel_rfl
theorem kt122 : kindT Tryd.prog 122 = some (some 6) := by kernel_rfl
theorem kt124 : kindT Tryd.prog 124 = some (some 4) := by kernel_rfl
theorem kt173 : kindT Tryd.prog 173 = some (some 2) := by kernel_rfl
theorem kt174 : kindT Tryd.prog 174 = some (some 32) := by kernel_rfl
theorem kt22 : kindT Tryd.prog 22 = some none := by kernel_rfl
theorem kt24 : kindT Tryd.prog 24 = some (some 2) := by kernel_rfl
theorem kt3 : kindT Tryd.prog 3 = some none := by kernel_rfl
theorem kt4 : kindT Tryd.prog 4 = some none := by kernel_rfl
theorem kt43 : kindT Tryd.prog 43 = some none := by kernel_rfl
theorem kt5 : kindT Tryd.prog 5 = some none := by kernel_rfl
theorem kt50 : kindT Tryd.prog 50 = some none := by kernel_rfl
theorem kt52 : kindT Tryd.prog 52 = some (some 4) := by kernel_rfl
theorem kt53 : kindT Tryd.prog 53 = some (some 3) := by kernel_rfl
theorem kt56 : kindT Tryd.prog 56 = some (some 6) := by kernel_rfl
theorem kt58 : kindT Tryd.prog 58 = some (some 14) := by kernel_rfl
theorem kt68 : kindT Tryd.prog 68 = some (some 3) := by kernel_rfl
theorem kt78 : kindT Tryd.prog 78 = some none := by kernel_rfl
theorem kt9 : kindT Tryd.prog 9 = some none := by kernel_rfl
theorem pp78 : uPtr Tryd.prog 78 = true := by kernel_rfl
theorem pt103_0 : partT Tryd.prog 103 0 = some (0, 1) := by kernel_rfl
theorem pt103_1 : partT Tryd.prog 103 1 = some (1, 1) := by kernel_rfl
theorem pt103_4 : partT Tryd.prog 103 4 = some (4, 1) := by kernel_rfl
theorem pt105_0 : partT Tryd.prog 105 0 = some (0, 1) := by kernel_rfl
theorem pt116_0 : partT Tryd.prog 116 0 = some (0, 1) := by kernel_rfl
theorem pt116_1 : partT Tryd.prog 116 1 = some (1, 1) := by kernel_rfl
theorem pt122_0 : partT Tryd.prog 122 0 = some (0, 1) := by kernel_rfl
theorem pt122_1 : partT Tryd.prog 122 1 = some (1, 1) := by kernel_rfl
theorem pt122_2 : partT Tryd.prog 122 2 = some (2, 1) := by kernel_rfl
theorem pt122_3 : partT Tryd.prog 122 3 = some (3, 1) := by kernel_rfl
theorem pt122_4 : partT Tryd.prog 122 4 = some (4, 1) := by kernel_rfl
theorem pt124_0 : partT Tryd.prog 124 0 = some (0, 1) := by kernel_rfl
theorem pt124_1 : partT Tryd.prog 124 1 = some (1, 1) := by kernel_rfl
theorem pt124_2 : partT Tryd.prog 124 2 = some (2, 2) := by kernel_rfl
theorem pt126_0 : partT Tryd.prog 126 0 = some (0, 1) := by kernel_rfl
theorem pt126_1 : partT Tryd.prog 126 1 = some (1, 1) := by kernel_rfl
theorem pt173_0 : partT Tryd.prog 173 0 = some (0, 1) := by kernel_rfl
theorem pt173_1 : partT Tryd.prog 173 1 = some (1, 1) := by kernel_rfl
theorem pt174_0 : partT Tryd.prog 174 0 = some (0, 2) := by kernel_rfl
theorem pt174_1 : partT Tryd.prog 174 1 = some (2, 2) := by kernel_rfl
theorem pt174_2 : partT Tryd.prog 174 2 = some (4, 2) := by kernel_rfl
theorem pt174_3 : partT Tryd.prog 174 3 = some (6, 2) := by kernel_rfl
theorem pt174_4 : partT Tryd.prog 174 4 = some (8, 2) := by kernel_rfl
theorem pt24_0 : partT Tryd.prog 24 0 = some (0, 1) := by kernel_rfl
theorem pt24_1 : partT Tryd.prog 24 1 = some (1, 1) := by kernel_rfl
theorem pt52_3 : partT Tryd.prog 52 3 = some (3, 1) := by kernel_rfl
theorem pt53_0 : partT Tryd.prog 53 0 = some (0, 1) := by kernel_rfl
theorem pt53_1 : partT Tryd.prog 53 1 = some (1, 1) := by kernel_rfl
theorem pt53_2 : partT Tryd.prog 53 2 = some (2, 1) := by kernel_rfl
theorem pt56_0 : partT Tryd.prog 56 0 = some (0, 2) := by kernel_rfl
theorem pt56_1 : partT Tryd.prog 56 1 = some (2, 2) := by kernel_rfl
theorem pt56_2 : partT Tryd.prog 56 2 = some (4, 2) := by kernel_rfl
theorem pt58_0 : partT Tryd.prog 58 0 = some (0, 1) := by kernel_rfl
theorem pt58_1 : partT Tryd.prog 58 1 = some (1, 1) := by kernel_rfl
theorem pt58_3 : partT Tryd.prog 58 3 = some (8, 6) := by kernel_rfl
theorem pt68_0 : partT Tryd.prog 68 0 = some (0, 1) := by kernel_rfl
theorem pt68_1 : partT Tryd.prog 68 1 = some (1, 2) := by kernel_rfl
theorem se110 : seOf Tryd.prog 110 = some (124, 4, 48, #[.string ByteArray.empty, .int .i64 0, .int .i64 0, .string ByteArray.empty]) := by kernel_rfl
theorem se22 : seOf Tryd.prog 22 = some (68, 3, 40, #[.string ByteArray.empty, .int .i64 0, .string ByteArray.empty]) := by kernel_rfl
theorem se38 : seOf Tryd.prog 38 = some (22, 1, 24, #[.slice none 0 0]) := by kernel_rfl
theorem se43 : seOf Tryd.prog 43 = some (9, 1, 16, #[.string ByteArray.empty]) := by kernel_rfl
theorem se50 : seOf Tryd.prog 50 = some (58, 14, 168, #[.string ByteArray.empty, .int .i64 0, .int .i64 0, .string ByteArray.empty, .int .i64 0, .string ByteArray.empty, .int .i64 0, .string ByteArray.empty, .int .i64 0, .string ByteArray.empty, .int .i64 0, .string ByteArray.empty, .int .i64 0, .string ByteArray.empty]) := by kernel_rfl
theorem se91 : seOf Tryd.prog 91 = some (4, 1, 1, #[.bool false]) := by kernel_rfl
theorem st9 : uStr Tryd.prog 9 = true := by kernel_rfl
theorem ua171 : uArr Tryd.prog 171 = some (256, 1) := by kernel_rfl
theorem ua174 : uArr Tryd.prog 174 = some (16, 2) := by kernel_rfl
theorem ua53 : uArr Tryd.prog 53 = some (3, 1) := by kernel_rfl
theorem ua56 : uArr Tryd.prog 56 = some (3, 2) := by kernel_rfl
theorem ui115 : (Tryd.prog.underlying 115).isSome = true := by kernel_rfl
theorem ui139 : (Tryd.prog.underlying 139).isSome = true := by kernel_rfl
theorem ui141 : (Tryd.prog.underlying 141).isSome = true := by kernel_rfl
theorem ui3 : (Tryd.prog.underlying 3).isSome = true := by kernel_rfl
theorem ui5 : (Tryd.prog.underlying 5).isSome = true := by kernel_rfl
theorem us110 : uSlice Tryd.prog 110 = some (124, 4) := by kernel_rfl
theorem us22 : uSlice Tryd.prog 22 = some (68, 3) := by kernel_rfl
theorem us38 : uSlice Tryd.prog 38 = some (22, 1) := by kernel_rfl
theorem us43 : uSlice Tryd.prog 43 = some (9, 1) := by kernel_rfl
theorem us50 : uSlice Tryd.prog 50 = some (58, 14) := by kernel_rfl
theorem us91 : uSlice Tryd.prog 91 = some (4, 1) := by kernel_rfl
theorem zt103 : zeroT Tryd.prog 103 = some #[.map none, .map none, .int .i64 0, .int .i64 0, .int .i64 0, .bool false] := by kernel_rfl
theorem zt105 : zeroT Tryd.prog 105 = some #[.bool false, .string ByteArray.empty, .string ByteArray.empty, .bool false, .bool false, .int .i64 0] := by kernel_rfl
theorem zt116 : zeroT Tryd.prog 116 = some #[.bool false, .bool false] := by kernel_rfl
theorem zt120 : zeroT Tryd.prog 120 = some #[.map none] := by kernel_rfl
theorem zt122 : zeroT Tryd.prog 122 = some #[.pointer none, .string ByteArray.empty, .map none, .map none, .map none, .int .i64 0] := by kernel_rfl
theorem zt124 : zeroT Tryd.prog 124 = some #[.string ByteArray.empty, .int .i64 0, .int .i64 0, .string ByteArray.empty] := by kernel_rfl
theorem zt126 : zeroT Tryd.prog 126 = some #[.string ByteArray.empty, .int .i64 0] := by kernel_rfl
theorem zt173 : zeroT Tryd.prog 173 = some #[.int .u8 0, .int .u8 0] := by kernel_rfl
theorem zt174 : zeroT Tryd.prog 174 = some #[.int .u8 0, .int .u8 0, .int .u8 0, .int .u8 0, .int .u8 0, .int .u8 0, .int .u8 0, .int .u8 0, .int .u8 0, .int .u8 0, .int .u8 0, .int .u8 0, .int .u8 0, .int .u8 0, .int .u8 0, .int .u8 0, .int .u8 0, .int .u8 0, .int .u8 0, .int .u8 0, .int .u8 0, .int .u8 0, .int .u8 0, .int .u8 0, .int .u8 0, .int .u8 0, .int .u8 0, .int .u8 0, .int .u8 0, .int .u8 0, .int .u8 0, .int .u8 0] := by kernel_rfl
theorem zt24 : zeroT Tryd.prog 24 = some #[.int .i64 0, .string ByteArray.empty] := by kernel_rfl
theorem zt3 : zeroT Tryd.prog 3 = some #[.int .i64 0] := by kernel_rfl
theorem zt43 : zeroT Tryd.prog 43 = some #[.slice none 0 0] := by kernel_rfl
theorem zt52 : zeroT Tryd.prog 52 = some #[.int .i64 0, .int .i64 0, .int .i64 0, .slice none 0 0] := by kernel_rfl
theorem zt53 : zeroT Tryd.prog 53 = some #[.slice none 0 0, .slice none 0 0, .slice none 0 0] := by kernel_rfl
theorem zt56 : zeroT Tryd.prog 56 = some #[.int .i64 0, .string ByteArray.empty, .int .i64 0, .string ByteArray.empty, .int .i64 0, .string ByteArray.empty] := by kernel_rfl
theorem zt58 : zeroT Tryd.prog 58 = some #[.string ByteArray.empty, .int .i64 0, .int .i64 0, .string ByteArray.empty, .int .i64 0, .string ByteArray.empty, .int .i64 0, .string ByteArray.empty, .int .i64 0, .string ByteArray.empty, .int .i64 0, .string ByteArray.empty, .int .i64 0, .string ByteArray.empty] := by kernel_rfl
theorem zt68 : zeroT Tryd.prog 68 = some #[.string ByteArray.empty, .int .i64 0, .string ByteArray.empty] := by kernel_rfl
theorem cl16 : callable Tryd.prog 16 = true := by kernel_rfl
theorem cl17 : callable Tryd.prog 17 = true := by kernel_rfl
theorem cl18 : callable Tryd.prog 18 = true := by kernel_rfl
theorem cl20 : callable Tryd.prog 20 = true := by kernel_rfl
theorem cl24 : callable Tryd.prog 24 = true := by kernel_rfl
theorem cl25 : callable Tryd.prog 25 = true := by kernel_rfl
theorem cl26 : callable Tryd.prog 26 = true := by kernel_rfl
theorem cl34 : callable Tryd.prog 34 = true := by kernel_rfl
theorem cl39 : callable Tryd.prog 39 = true := by kernel_rfl
theorem cl40 : callable Tryd.prog 40 = true := by kernel_rfl
theorem cl42 : callable Tryd.prog 42 = true := by kernel_rfl
theorem cl47 : callable Tryd.prog 47 = true := by kernel_rfl
theorem cl49 : callable Tryd.prog 49 = true := by kernel_rfl
theorem cl50 : callable Tryd.prog 50 = true := by kernel_rfl
theorem cl51 : callable Tryd.prog 51 = true := by kernel_rfl
theorem cl52 : callable Tryd.prog 52 = true := by kernel_rfl
theorem cl53 : callable Tryd.prog 53 = true := by kernel_rfl
theorem cl54 : callable Tryd.prog 54 = true := by kernel_rfl
theorem cl55 : callable Tryd.prog 55 = true := by kernel_rfl
theorem cl56 : callable Tryd.prog 56 = true := by kernel_rfl
theorem cl57 : callable Tryd.prog 57 = true := by kernel_rfl
theorem cl58 : callable Tryd.prog 58 = true := by kernel_rfl
theorem cl61 : callable Tryd.prog 61 = true := by kernel_rfl
theorem cl62 : callable Tryd.prog 62 = true := by kernel_rfl
theorem cl69 : callable Tryd.prog 69 = true := by kernel_rfl
theorem cl71 : callable Tryd.prog 71 = true := by kernel_rfl
theorem cl72 : callable Tryd.prog 72 = true := by kernel_rfl
theorem cl73 : callable Tryd.prog 73 = true := by kernel_rfl
theorem cl76 : callable Tryd.prog 76 = true := by kernel_rfl
theorem cl77 : callable Tryd.prog 77 = true := by kernel_rfl
theorem cl78 : callable Tryd.prog 78 = true := by kernel_rfl
theorem cl79 : callable Tryd.prog 79 = true := by kernel_rfl
theorem cl80 : callable Tryd.prog 80 = true := by kernel_rfl
theorem cl81 : callable Tryd.prog 81 = true := by kernel_rfl
theorem cl84 : callable Tryd.prog 84 = true := by kernel_rfl
theorem cl96 : callable Tryd.prog 96 = true := by kernel_rfl
theorem cl97 : callable Tryd.prog 97 = true := by kernel_rfl
theorem cl99 : callable Tryd.prog 99 = true := by kernel_rfl
theorem cl129 : callable Tryd.prog 129 = true := by kernel_rfl
theorem cl130 : callable Tryd.prog 130 = true := by kernel_rfl
theorem cl150 : callable Tryd.prog 150 = true := by kernel_rfl
theorem cl156 : callable Tryd.prog 156 = true := by kernel_rfl
attribute [push_cast] ev_tmp ev_const ev_global ev_func evs_nil evs_cons stp_some stp_none dsts_nil dsts_cons argsE_nil argsE_cons intBin_add intBin_sub intBin_mul intBin_quo intBin_rem intBin_and intBin_or intBin_xor intBin_andNot intBin_eql intBin_neq intBin_lss intBin_leq intBin_gtr intBin_geq intBin_shl intBin_shr strBin_add strBin_eql strBin_neq strBin_lss strBin_leq strBin_gtr strBin_geq pureBin_int pureBin_str pureBin_beq pureBin_bne pureBin_peq pureBin_pne pureBin_seq pureBin_sne pureBin_agg effEq_eql effEq_neq pureUn_not pureUn_neg pureUn_xor pureConv_int pureConv_str pureField_eq pureIndexAddr_s pureIndexAddr_p pureIndex_s oInt_none oInt_some pureSlice_str pureSlice_sl pureB_len pureB_lens pureB_cap pureB_max pureB_min pureB_app pureB_copy po_move po_assign po_pick po_bin po_un po_conv po_field po_extract po_faddr po_iaddr po_index po_slice po_nil po_builtin po_call po_load po_store po_alloc po_box po_build po_buildS po_makeS eo_load eo_store eo_build eo_buildS eo_makeS eo_app eo_call eo_bin eq_load eq_build eq_call eq_bin parts_nil parts_cons outG_none outG_some dstOk_none dstOk_some out_eq outR_eq outOp_eq outQ_eq imm_load immQ_load imm_alloc imm_box imm_store imm_build imm_call imm_bin immQ_build immQ_call immQ_bin imm_buildS imm_makeS v2_nil v2_cons vq_nil vq_cons undef_eq
attribute [push_cast] List.take_succ_cons List.take_zero List.drop_succ_cons List.drop_zero true_and and_true Option.isSome_some List.getElem?_cons_zero List.getElem?_cons_succ List.length_cons List.length_nil cond_true cond_false Int.toNat_natCast Nat.mul_one Nat.add_zero Nat.zero_add Addr.add_lit bne_self_eq_false beq_self_eq_true Bool.not_true Bool.not_false List.size_toArray Array.getD_eq_getD_getElem? List.getElem?_toArray Option.getD_some decide_true decide_false eq_self Bool.true_beq Bool.false_beq List.getD_cons_zero List.getD_cons_succ List.map_cons List.map_nil List.set_cons_zero List.set_cons_succ List.replicate_zero List.toList_toArray List.all_toArray List.all_cons List.all_nil Bool.and_self Bool.and_true Bool.true_and Bool.and_false Bool.false_and List.length_map List.length_append List.length_replicate List.length_set List.cons_append List.nil_append cond_triv Option.isSome_some Option.isSome_none beq_true beq_false Bool.not_false Option.map_some Bool.true_or Bool.false_or Bool.or_true Bool.or_false Bool.false_xor Bool.true_xor and_self beq_self_eq_true fv_default List.flatMap_cons List.flatMap_nil List.append_nil
attribute [push_cast] lk_lo zS zM zX zU hev_tmp hev_const hev_global hev_func hevs_nil hevs_cons leaf_v leaf_none leaf_lst leaf_own leaf_ptr leaf_elt leaf_agg leaf_tup leaf_vw leaf_junk hPure_some hPure_none hop_eq heff_move heff_assign heff_pick heff_extract heff_field heff_faddr heff_nilc heff_iaddr heff_slice heff_load heff_store heff_alloc heff_box heff_build heff_buildS heff_makeS heff_len heff_app heff_callf heff_eql heff_neq heff_conv hMove_eq hPick_eq hExtract_eq hField_one hField_sub hFAddr_ptr hFAddr_elt hNil_ptr hNil_elt hIAddr_own hIAddr_lst hIAddr_ptr hIAddr_elt hIAddrR_eq hIAddrL_eq hIAddrP_eq hIAddrE_eq hLen_vw hSlice_own hSlice_vw hSliceR_eq hSliceV_eq rlen_sl hIAddr_vw hIAddrV_eq newsOf_vw hcells_vw hone_vw hkill_vw hren_vw hsub_vw ownIds_vw ownCell_vw hLen_own hLen_lst hLenR_hl hIAddrR_hl hLenR_eq hSlice_eq hSliceL_eq hLoad_ptr hLoad_elt hLoadR_sl hLoadR_sla hLoadR_bx hLoadR_bxa hLoadR_hl hLoadR_hla hStoreR_hl hStoreH_one hStoreH_agg hLoadE_one hLoadE_agg hStore_eq hStoreR_sl hStoreR_bx hStoreS_one hStoreS_agg hStoreB_one hStoreB_agg hAlloc_eq hBox_eq hBoxC_eq partsH_nil partsH_cons hfill_nil hfill_cons hBuild_eq hBuildF_eq hlit_nil hlit_cons hBuildS_eq allF_nil allF_cons hlitH_nil hlitH_cons hkl_eq hBuildSE_t hBuildSE_f hBuildSH_eq hBuildSF_eq hMake_eq newsOf_own newsOf_lst newsOf_nil hAppend_own newsH_own newsH_lst newsH_nil arr2_eq newsA_t newsA_f newsS_str hAppend_nil hAppR_hl hAppH_eq hAppR_eq hAppN_eq leafs_nil leafs_cons hEq_eq hEq_ptr hEq_elt hConv_str hConv_own hConv_lst hConvR_eq hConvL_eq bytesH_nil bytesH_cons hEqL_eq hCall_eq ats0_eq oneAll_eq hf_v hf_own hf_vw hf_ptr hf_lst hfs_nil hfs_cons fone_v fone_lst hone_v hone_lst hone_own hone_ptr fh_v fh_lst one_int hcellv_int one_bool hcellv_bool one_str hcellv_str one_slice hcellv_slice one_ptr hcellv_ptr hcells_agg hcells_lst hcells_own hcells_ptr splice_eq kill_eq row_eq set_some set_none rep_eq hrep_nil hrep_cons ekill_nil ekill_cons skill_nil skill_cons rkill_sl rkill_hl rkill_bx hkill_v hren_v hsub_v hkill_lst hren_lst hsub_lst hkill_elt hren_elt hsub_elt hkill_junk hren_junk hsub_junk hkill_own hkill_ptr hkill_agg hkill_tup hren_own hren_ptr hren_agg hren_tup hsub_own hsub_ptr hsub_agg hsub_tup rren_sl rren_hl rren_bx rsub_sl rsub_hl rsub_bx only_eq eight_eq sh_eq adds_eq radds_nil radds_cons rest_eq esub_nil esub_cons ssub_nil ssub_cons sset_nil sset_cons hG_none hG_some hGv_bool hGv_tup hgo_go hgo_call hgo_eqn hgo_bytes hgo_eq hgo1_eq hpre_move hpre_assign hpre_pick hpre_extract hpre_field hpre_faddr hpre_nilc hpre_iaddr hpre_slice hpre_load hpre_build hpre_bin hpre_un hpre_conv hpre_index hpre_call hpre_alloc hpre_box hpre_make hpre_store hpre_buildS ownsS_eq ownsR_sl ownsR_bx ownsP_eq ownIds_own ownIds_v ownIds_lst ownIds_agg ownCell_own ownCell_v ownCell_lst restAll_nil restAll_cons restOne_eq ownsR_hl hskip_eq hstep_yes hstep_no hstep_ask hv2_nil hv2_cons hgoq_go hgoq_call hgoq_eqn hgoq_eq hstepq_yes hstepq_no hstepq_ask hvq_nil hvq_cons slotX_tmp slotX_const slotX_global slotX_func slotsL_nil slotsL_cons slotsP_nil slotsP_cons slotO_some slotO_none slotsOf_move slotsOf_assign slotsOf_nilc slotsOf_pick slotsOf_extract slotsOf_field slotsOf_faddr slotsOf_load slotsOf_un slotsOf_conv slotsOf_iaddr slotsOf_index slotsOf_slice slotsOf_bin slotsOf_build slotsOf_buildS slotsOf_makeS slotsOf_call slotG_none slotG_some pickE_nil pickE_cons plainE_nil plainE_v plainE_lst plainE_agg hmade_eq made_buildS made_makeS quiet_buildS quiet_makeS hgor_go hgor_call hgor_eqn hgor_eq hstepr_yes hstepr_no hstepr_ask hvr_nil hvr_cons idOf_some idOf_none quiet_move quiet_assign quiet_pick quiet_extract quiet_field quiet_faddr quiet_nilc quiet_iaddr quiet_slice quiet_load quiet_build quiet_bin quiet_un quiet_conv quiet_index quiet_len quiet_min argsH_nil argsH_cons heff_index hIndexA_agg heff_copy hCopy_own hCopy_vw hCopyR_own hCopyR_vw hCopyN_some slotsC_value slotsC_builtin heff_callt fnH_v hCallV_some
 nthO_nil nthO_cons sh2_eq inL_nil inL_cons isSl_none isSl_sl isSl_bx isSl_hl isBx_hl dark_hl flag_hl flag_ohl isBx_none isBx_sl isBx_t isBx_f turned_eq gone_eq oldRow_eq dark_sl dark_bx flag_none flag_sl flag_bx flag_osl dpick_nil dpick_cons swp_nil swp_cons swap_eq cond_true' ltT ltF leT leF eqT eqF getD_map wr64 toNat_succ toNat_add
attribute [push_cast] ac116 ac53 bb4 bd103 bd105 bd116 bd122 bd124 bd126 bd173 bd174 bd24 bd52 bd53 bd56 bd58 bd68 fo103_0 fo103_1 fo103_2 fo103_3 fo103_4 fo103_5 fo105_0 fo105_1 fo105_3 fo105_4 fo105_5 fo122_0 fo122_1 fo122_2 fo122_3 fo122_4 fo122_5 fo124_0 fo124_1 fo124_2 fo173_0 fo173_1 fo24_0 fo24_1 fo52_3 fo58_0 fo58_2 fo58_3 fo68_0 fo68_1 fp105_0 fp105_5 fp24_0 it115 it139 it21 it3 it5 kt100 kt101 kt105 kt119 kt120 kt122 kt124 kt173 kt174 kt22 kt24 kt3 kt4 kt43 kt5 kt50 kt52 kt53 kt56 kt58 kt68 kt78 kt9 pp78 pt103_0 pt103_1 pt103_4 pt105_0 pt116_0 pt116_1 pt122_0 pt122_1 pt122_2 pt122_3 pt122_4 pt124_0 pt124_1 pt124_2 pt126_0 pt126_1 pt173_0 pt173_1 pt174_0 pt174_1 pt174_2 pt174_3 pt174_4 pt24_0 pt24_1 pt52_3 pt53_0 pt53_1 pt53_2 pt56_0 pt56_1 pt56_2 pt58_0 pt58_1 pt58_3 pt68_0 pt68_1 se110 se22 se38 se43 se50 se91 st9 ua171 ua174 ua53 ua56 ui115 ui139 ui141 ui3 ui5 us110 us22 us38 us43 us50 us91 zt103 zt105 zt116 zt120 zt122 zt124 zt126 zt173 zt174 zt24 zt3 zt43 zt52 zt53 zt56 zt58 zt68
attribute [push_cast] ev_tmp ev_const ev_global ev_func evs_nil evs_cons stp_some stp_none dsts_nil dsts_cons argsE_nil argsE_cons intBin_add intBin_sub intBin_mul intBin_quo intBin_rem intBin_and intBin_or intBin_xor intBin_andNot intBin_eql intBin_neq intBin_lss intBin_leq intBin_gtr intBin_geq intBin_shl intBin_shr strBin_add strBin_eql strBin_neq strBin_lss strBin_leq strBin_gtr strBin_geq pureBin_int pureBin_str pureBin_beq pureBin_bne pureBin_peq pureBin_pne pureBin_seq pureBin_sne pureBin_agg effEq_eql effEq_neq pureUn_not pureUn_neg pureUn_xor pureConv_int pureConv_str pureField_eq pureIndexAddr_s pureIndexAddr_p pureIndex_s oInt_none oInt_some pureSlice_str pureSlice_sl pureB_len pureB_lens pureB_cap pureB_max pureB_min pureB_app pureB_copy po_move po_assign po_pick po_bin po_un po_conv po_field po_extract po_faddr po_iaddr po_index po_slice po_nil po_builtin po_call po_load po_store po_alloc po_box po_build po_buildS po_makeS eo_load eo_store eo_build eo_buildS eo_makeS eo_app eo_call eo_bin eq_load eq_build eq_call eq_bin parts_nil parts_cons outG_none outG_some dstOk_none dstOk_some out_eq outR_eq outOp_eq outQ_eq imm_load immQ_load imm_alloc imm_box imm_store imm_build imm_call imm_bin immQ_build immQ_call immQ_bin imm_buildS imm_makeS v2_nil v2_cons vq_nil vq_cons undef_eq
attribute [push_cast] List.take_succ_cons List.take_zero List.drop_succ_cons List.drop_zero true_and and_true Option.isSome_some List.getElem?_cons_zero List.getElem?_cons_succ List.length_cons List.length_nil cond_true cond_false Int.toNat_natCast Nat.mul_one Nat.add_zero Nat.zero_add Addr.add_lit bne_self_eq_false beq_self_eq_true Bool.not_true Bool.not_false List.size_toArray Array.getD_eq_getD_getElem? List.getElem?_toArray Option.getD_some decide_true decide_false eq_self Bool.true_beq Bool.false_beq List.getD_cons_zero List.getD_cons_succ List.map_cons List.map_nil List.set_cons_zero List.set_cons_succ List.replicate_zero List.toList_toArray List.all_toArray List.all_cons List.all_nil Bool.and_self Bool.and_true Bool.true_and Bool.and_false Bool.false_and List.length_map List.length_append List.length_replicate List.length_set List.cons_append List.nil_append cond_triv Option.isSome_some Option.isSome_none beq_true beq_false Bool.not_false Option.map_some Bool.true_or Bool.false_or Bool.or_true Bool.or_false Bool.false_xor Bool.true_xor and_self beq_self_eq_true fv_default List.flatMap_cons List.flatMap_nil List.append_nil
attribute [push_cast] lk_lo zS zM zX zU hev_tmp hev_const hev_global hev_func hevs_nil hevs_cons leaf_v leaf_none leaf_lst leaf_own leaf_ptr leaf_elt leaf_agg leaf_tup leaf_vw leaf_junk hPure_some hPure_none hop_eq heff_move heff_assign heff_pick heff_extract heff_field heff_faddr heff_nilc heff_iaddr heff_slice heff_load heff_store heff_alloc heff_box heff_build heff_buildS heff_makeS heff_len heff_app heff_callf heff_eql heff_neq heff_conv hMove_eq hPick_eq hExtract_eq hField_one hField_sub hFAddr_ptr hFAddr_elt hNil_ptr hNil_elt hIAddr_own hIAddr_lst hIAddr_ptr hIAddr_elt hIAddrR_eq hIAddrL_eq hIAddrP_eq hIAddrE_eq hLen_vw hSlice_own hSlice_vw hSliceR_eq hSliceV_eq rlen_sl hIAddr_vw hIAddrV_eq newsOf_vw hcells_vw hone_vw hkill_vw hren_vw hsub_vw ownIds_vw ownCell_vw hLen_own hLen_lst hLenR_hl hIAddrR_hl hLenR_eq hSlice_eq hSliceL_eq hLoad_ptr hLoad_elt hLoadR_sl hLoadR_sla hLoadR_bx hLoadR_bxa hLoadR_hl hLoadR_hla hStoreR_hl hStoreH_one hStoreH_agg hLoadE_one hLoadE_agg hStore_eq hStoreR_sl hStoreR_bx hStoreS_one hStoreS_agg hStoreB_one hStoreB_agg hAlloc_eq hBox_eq hBoxC_eq partsH_nil partsH_cons hfill_nil hfill_cons hBuild_eq hBuildF_eq hlit_nil hlit_cons hBuildS_eq allF_nil allF_cons hlitH_nil hlitH_cons hkl_eq hBuildSE_t hBuildSE_f hBuildSH_eq hBuildSF_eq hMake_eq newsOf_own newsOf_lst newsOf_nil hAppend_own newsH_own newsH_lst newsH_nil arr2_eq newsA_t newsA_f newsS_str hAppend_nil hAppR_hl hAppH_eq hAppR_eq hAppN_eq leafs_nil leafs_cons hEq_eq hEq_ptr hEq_elt hConv_str hConv_own hConv_lst hConvR_eq hConvL_eq bytesH_nil bytesH_cons hEqL_eq hCall_eq ats0_eq oneAll_eq hf_v hf_own hf_vw hf_ptr hf_lst hfs_nil hfs_cons fone_v fone_lst hone_v hone_lst hone_own hone_ptr fh_v fh_lst one_int hcellv_int one_bool hcellv_bool one_str hcellv_str one_slice hcellv_slice one_ptr hcellv_ptr hcells_agg hcells_lst hcells_own hcells_ptr splice_eq kill_eq row_eq set_some set_none rep_eq hrep_nil hrep_cons ekill_nil ekill_cons skill_nil skill_cons rkill_sl rkill_hl rkill_bx hkill_v hren_v hsub_v hkill_lst hren_lst hsub_lst hkill_elt hren_elt hsub_elt hkill_junk hren_junk hsub_junk hkill_own hkill_ptr hkill_agg hkill_tup hren_own hren_ptr hren_agg hren_tup hsub_own hsub_ptr hsub_agg hsub_tup rren_sl rren_hl rren_bx rsub_sl rsub_hl rsub_bx only_eq eight_eq sh_eq adds_eq radds_nil radds_cons rest_eq esub_nil esub_cons ssub_nil ssub_cons sset_nil sset_cons hG_none hG_some hGv_bool hGv_tup hgo_go hgo_call hgo_eqn hgo_bytes hgo_eq hgo1_eq hpre_move hpre_assign hpre_pick hpre_extract hpre_field hpre_faddr hpre_nilc hpre_iaddr hpre_slice hpre_load hpre_build hpre_bin hpre_un hpre_conv hpre_index hpre_call hpre_alloc hpre_box hpre_make hpre_store hpre_buildS ownsS_eq ownsR_sl ownsR_bx ownsP_eq ownIds_own ownIds_v ownIds_lst ownIds_agg ownCell_own ownCell_v ownCell_lst restAll_nil restAll_cons restOne_eq ownsR_hl hskip_eq hstep_yes hstep_no hstep_ask hv2_nil hv2_cons hgoq_go hgoq_call hgoq_eqn hgoq_eq hstepq_yes hstepq_no hstepq_ask hvq_nil hvq_cons slotX_tmp slotX_const slotX_global slotX_func slotsL_nil slotsL_cons slotsP_nil slotsP_cons slotO_some slotO_none slotsOf_move slotsOf_assign slotsOf_nilc slotsOf_pick slotsOf_extract slotsOf_field slotsOf_faddr slotsOf_load slotsOf_un slotsOf_conv slotsOf_iaddr slotsOf_index slotsOf_slice slotsOf_bin slotsOf_build slotsOf_buildS slotsOf_makeS slotsOf_call slotG_none slotG_some pickE_nil pickE_cons plainE_nil plainE_v plainE_lst plainE_agg hmade_eq made_buildS made_makeS quiet_buildS quiet_makeS hgor_go hgor_call hgor_eqn hgor_eq hstepr_yes hstepr_no hstepr_ask hvr_nil hvr_cons idOf_some idOf_none quiet_move quiet_assign quiet_pick quiet_extract quiet_field quiet_faddr quiet_nilc quiet_iaddr quiet_slice quiet_load quiet_build quiet_bin quiet_un quiet_conv quiet_index quiet_len quiet_min argsH_nil argsH_cons heff_index hIndexA_agg heff_copy hCopy_own hCopy_vw hCopyR_own hCopyR_vw hCopyN_some slotsC_value slotsC_builtin heff_callt fnH_v hCallV_some
 nthO_nil nthO_cons sh2_eq inL_nil inL_cons isSl_none isSl_sl isSl_bx isSl_hl isBx_hl dark_hl flag_hl flag_ohl isBx_none isBx_sl isBx_t isBx_f turned_eq gone_eq oldRow_eq dark_sl dark_bx flag_none flag_sl flag_bx flag_osl dpick_nil dpick_cons swp_nil swp_cons swap_eq cond_true' ltT ltF leT leF eqT eqF getD_map wr64 toNat_succ toNat_add
attribute [push_cast] ac116 ac53 bb4 bd103 bd105 bd116 bd122 bd124 bd126 bd173 bd174 bd24 bd52 bd53 bd56 bd58 bd68 fo103_0 fo103_1 fo103_2 fo103_3 fo103_4 fo103_5 fo105_0 fo105_1 fo105_3 fo105_4 fo105_5 fo122_0 fo122_1 fo122_2 fo122_3 fo122_4 fo122_5 fo124_0 fo124_1 fo124_2 fo173_0 fo173_1 fo24_0 fo24_1 fo52_3 fo58_0 fo58_2 fo58_3 fo68_0 fo68_1 fp105_0 fp105_5 fp24_0 it115 it139 it21 it3 it5 kt100 kt101 kt105 kt119 kt120 kt122 kt124 kt173 kt174 kt22 kt24 kt3 kt4 kt43 kt5 kt50 kt52 kt53 kt56 kt58 kt68 kt78 kt9 pp78 pt103_0 pt103_1 pt103_4 pt105_0 pt116_0 pt116_1 pt122_0 pt122_1 pt122_2 pt122_3 pt122_4 pt124_0 pt124_1 pt124_2 pt126_0 pt126_1 pt173_0 pt173_1 pt174_0 pt174_1 pt174_2 pt174_3 pt174_4 pt24_0 pt24_1 pt52_3 pt53_0 pt53_1 pt53_2 pt56_0 pt56_1 pt56_2 pt58_0 pt58_1 pt58_3 pt68_0 pt68_1 se110 se22 se38 se43 se50 se91 st9 ua171 ua174 ua53 ua56 ui115 ui139 ui141 ui3 ui5 us110 us22 us38 us43 us50 us91 zt103 zt105 zt116 zt120 zt122 zt124 zt126 zt173 zt174 zt24 zt3 zt43 zt52 zt53 zt56 zt58 zt68
end Go.Proofs.YtkonlklieacjoaaDoor
