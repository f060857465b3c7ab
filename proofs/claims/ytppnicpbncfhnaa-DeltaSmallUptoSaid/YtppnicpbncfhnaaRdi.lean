/-
  Reader.Int, Text.
-/
import Derived.Test.YtppnicpbncfhnaaRdu
set_option linter.unusedSimpArgs false
set_option linter.unusedVariables false
set_option maxRecDepth 20000
namespace Go.Proofs.Ytppnicpbncfhnaa
open Go Go.Eng Go.RowKit
attribute [local push_cast] ev_tmp ev_const ev_global ev_func evs_nil evs_cons stp_some stp_none dsts_nil dsts_cons argsE_nil argsE_cons intBin_add intBin_sub intBin_mul intBin_quo intBin_rem intBin_and intBin_or intBin_xor intBin_andNot intBin_eql intBin_neq intBin_lss intBin_leq intBin_gtr intBin_geq intBin_shl intBin_shr strBin_add strBin_eql strBin_neq strBin_lss strBin_leq strBin_gtr strBin_geq pureBin_int pureBin_str pureBin_beq pureBin_bne pureBin_peq pureBin_pne pureBin_seq pureBin_sne pureBin_agg effEq_eql effEq_neq pureUn_not pureUn_neg pureUn_xor pureConv_int pureConv_str pureField_eq pureIndexAddr_s pureIndexAddr_p pureIndex_s oInt_none oInt_some pureSlice_str pureSlice_sl pureB_len pureB_lens pureB_cap pureB_max pureB_min pureB_app pureB_copy po_move po_assign po_pick po_bin po_un po_conv po_field po_extract po_faddr po_iaddr po_index po_slice po_nil po_builtin po_call po_load po_store po_alloc po_box po_build po_buildS po_makeS eo_load eo_store eo_build eo_buildS eo_makeS eo_app eo_call eo_bin eq_load eq_build eq_call eq_bin parts_nil parts_cons outG_none outG_some dstOk_none dstOk_some out_eq outR_eq outOp_eq outQ_eq imm_load immQ_load imm_alloc imm_box imm_store imm_build imm_call imm_bin immQ_build immQ_call immQ_bin imm_buildS imm_makeS v2_nil v2_cons vq_nil vq_cons undef_eq
attribute [local push_cast] List.take_succ_cons List.take_zero List.drop_succ_cons List.drop_zero true_and and_true Option.isSome_some List.getElem?_cons_zero List.getElem?_cons_succ List.length_cons List.length_nil cond_true cond_false Int.toNat_natCast Nat.mul_one Nat.add_zero Nat.zero_add Addr.add_lit bne_self_eq_false beq_self_eq_true Bool.not_true Bool.not_false List.size_toArray Array.getD_eq_getD_getElem? List.getElem?_toArray Option.getD_some decide_true decide_false eq_self Bool.true_beq Bool.false_beq List.getD_cons_zero List.getD_cons_succ List.map_cons List.map_nil List.set_cons_zero List.set_cons_succ List.replicate_zero List.toList_toArray List.all_toArray List.all_cons List.all_nil Bool.and_self Bool.and_true Bool.true_and Bool.and_false Bool.false_and List.length_map List.length_append List.length_replicate List.length_set List.cons_append List.nil_append cond_triv Option.isSome_some Option.isSome_none beq_true beq_false Bool.not_false Option.map_some Bool.true_or Bool.false_or Bool.or_true Bool.or_false Bool.false_xor Bool.true_xor and_self beq_self_eq_true fv_default List.flatMap_cons List.flatMap_nil List.append_nil
attribute [local push_cast] lk_lo hlk_nil hlk_cons rlk_nil rlk_cons hev_tmp hev_const hev_global hev_func hevs_nil hevs_cons leaf_v leaf_none leaf_lst leaf_own leaf_ptr leaf_elt leaf_agg leaf_tup leaf_vw leaf_junk hPure_some hPure_none hop_eq heff_move heff_assign heff_pick heff_extract heff_field heff_faddr heff_nilc heff_iaddr heff_slice heff_load heff_store heff_alloc heff_box heff_build heff_buildS heff_makeS heff_len heff_app heff_callf heff_eql heff_neq heff_conv hMove_eq hPick_eq hExtract_eq hField_one hField_sub hFAddr_ptr hFAddr_elt hNil_ptr hNil_elt hIAddr_own hIAddr_lst hIAddr_ptr hIAddr_elt hIAddrR_eq hIAddrL_eq hIAddrP_eq hIAddrE_eq hLen_vw hSlice_own hSlice_vw hSliceR_eq hSliceV_eq rlen_sl hIAddr_vw hIAddrV_eq newsOf_vw hcells_vw hone_vw hkill_vw hren_vw hsub_vw ownIds_vw ownCell_vw hLen_own hLen_lst hLenR_hl hIAddrR_hl hLenR_eq hSlice_eq hSliceL_eq hLoad_ptr hLoad_elt hLoadR_sl hLoadR_sla hLoadR_bx hLoadR_bxa hLoadR_hl hLoadR_hla hStoreR_hl hStoreH_one hStoreH_agg hLoadE_one hLoadE_agg hStore_eq hStoreR_sl hStoreR_bx hStoreS_one hStoreS_agg hStoreB_one hStoreB_agg hAlloc_eq hBox_eq hBoxC_eq partsH_nil partsH_cons hfill_nil hfill_cons hBuild_eq hBuildF_eq hlit_nil hlit_cons hBuildS_eq allF_nil allF_cons hlitH_nil hlitH_cons hkl_eq hBuildSE_t hBuildSE_f hBuildSH_eq hBuildSF_eq hMake_eq newsOf_own newsOf_lst newsOf_nil hAppend_own newsH_own newsH_lst newsH_nil arr2_eq newsA_t newsA_f newsS_str hAppend_nil hAppR_hl hAppH_eq hAppR_eq hAppN_eq leafs_nil leafs_cons hEq_eq hEq_ptr hEq_elt hConv_str hConv_own hConv_lst hConvR_eq hConvL_eq bytesH_nil bytesH_cons hEqL_eq hCall_eq ats0_eq oneAll_eq hf_v hf_own hf_vw hf_ptr hf_lst hfs_nil hfs_cons fone_v fone_lst hone_v hone_lst hone_own hone_ptr fh_v fh_lst one_int hcellv_int one_bool hcellv_bool one_str hcellv_str one_slice hcellv_slice one_ptr hcellv_ptr hcells_agg hcells_lst hcells_own hcells_ptr splice_eq kill_eq row_eq set_some set_none rep_eq hrep_nil hrep_cons ekill_nil ekill_cons skill_nil skill_cons rkill_sl rkill_hl rkill_bx hkill_v hren_v hsub_v hkill_lst hren_lst hsub_lst hkill_elt hren_elt hsub_elt hkill_junk hren_junk hsub_junk hkill_own hkill_ptr hkill_agg hkill_tup hren_own hren_ptr hren_agg hren_tup hsub_own hsub_ptr hsub_agg hsub_tup rren_sl rren_hl rren_bx rsub_sl rsub_hl rsub_bx only_eq eight_eq sh_eq adds_eq radds_nil radds_cons rest_eq esub_nil esub_cons ssub_nil ssub_cons sset_nil sset_cons hG_none hG_some hGv_bool hGv_tup hgo_go hgo_call hgo_eqn hgo_bytes hgo_eq hgo1_eq hpre_move hpre_assign hpre_pick hpre_extract hpre_field hpre_faddr hpre_nilc hpre_iaddr hpre_slice hpre_load hpre_build hpre_bin hpre_un hpre_conv hpre_index hpre_call hpre_alloc hpre_box hpre_make hpre_store hpre_buildS ownsS_eq ownsR_sl ownsR_bx ownsP_eq ownIds_own ownIds_v ownIds_lst ownIds_agg ownCell_own ownCell_v ownCell_lst restAll_nil restAll_cons restOne_eq ownsR_hl hskip_eq hstep_yes hstep_no hstep_ask hv2_nil hv2_cons hgoq_go hgoq_call hgoq_eqn hgoq_eq hstepq_yes hstepq_no hstepq_ask hvq_nil hvq_cons slotX_tmp slotX_const slotX_global slotX_func slotsL_nil slotsL_cons slotsP_nil slotsP_cons slotO_some slotO_none slotsOf_move slotsOf_assign slotsOf_nilc slotsOf_pick slotsOf_extract slotsOf_field slotsOf_faddr slotsOf_load slotsOf_un slotsOf_conv slotsOf_iaddr slotsOf_index slotsOf_slice slotsOf_bin slotsOf_build slotsOf_buildS slotsOf_makeS slotsOf_call slotG_none slotG_some pickE_nil pickE_cons plainE_nil plainE_v plainE_lst plainE_agg hmade_eq made_buildS made_makeS quiet_buildS quiet_makeS hgor_go hgor_call hgor_eqn hgor_eq hstepr_yes hstepr_no hstepr_ask hvr_nil hvr_cons idOf_some idOf_none quiet_move quiet_assign quiet_pick quiet_extract quiet_field quiet_faddr quiet_nilc quiet_iaddr quiet_slice quiet_load quiet_build quiet_bin quiet_un quiet_conv quiet_index quiet_len quiet_min argsH_nil argsH_cons
attribute [local push_cast] fo82_0 fo82_1 it3 kt3 kt9 pp31 st9 ui79
def uz (x : Int) : Int := bits .xor .i64 (IntKind.i64.wrap (x.fdiv (2 ^ min 1 IntKind.u64.bits))) (IntKind.i64.wrap (0 - IntKind.i64.wrap (bits .and .u64 x 1)))
theorem uz_def (x : Int) : bits .xor .i64 (IntKind.i64.wrap (x.fdiv (2 ^ min 1 IntKind.u64.bits))) (IntKind.i64.wrap (0 - IntKind.i64.wrap (bits .and .u64 x 1))) = uz x := rfl
theorem wi64 (n : Int) : IntKind.i64.wrap n = (n + 9223372036854775808) % 18446744073709551616 - 9223372036854775808 := IntKind.wrap_i64 n
theorem and1 {x : Nat} (h : x ≤ 18446744073709551615) : bits .and .u64 (x : Int) 1 = ((x % 2 : Nat) : Int) := by
  have := bits_mask .u64 64 (by decide) (fun n h0 h1 => by rw [wu64]; omega) 1 (by decide) (x : Int) (by omega) (by omega)
  rw [show ((2 : Int) ^ 1 - 1) = 1 from rfl] at this
  rw [this]; omega
theorem uz_eq {x : Nat} (h : x ≤ 18446744073709551615) : uz x = unzz x := by
  unfold uz unzz
  rw [and1 h, show min 1 IntKind.u64.bits = 1 from rfl, Int.fdiv_eq_ediv_of_nonneg _ (by decide)]
  have e1 : IntKind.i64.wrap ((x : Int) / 2 ^ 1) = ((x / 2 : Nat) : Int) := by rw [wi64]; omega
  rw [e1]
  by_cases h2 : x % 2 = 0
  · rw [if_pos h2, h2]
    show IntKind.i64.wrap ((BitVec.ofInt 64 ((x / 2 : Nat) : Int) ^^^ BitVec.ofInt 64 0).toNat : Nat) = _
    rw [show BitVec.ofInt 64 0 = 0#64 from rfl, BitVec.xor_zero, BitVec.toNat_ofInt, wi64]
    omega
  · rw [if_neg h2, show x % 2 = 1 by omega]
    show IntKind.i64.wrap ((BitVec.ofInt 64 ((x / 2 : Nat) : Int) ^^^ BitVec.ofInt 64 (-1)).toNat : Nat) = _
    rw [show BitVec.ofInt 64 (-1) = BitVec.allOnes 64 from rfl, BitVec.xor_allOnes, BitVec.toNat_not, BitVec.toNat_ofInt, wi64]
    omega
set_option maxHeartbeats 4000000 in
theorem rint_H (s : ByteArray) (i : Nat) (hi : i ≤ s.size) (hs : s.size ≤ 140737488355328) : HRcv Try.prog 27 82 (rdr s i) [] (fun h cs => h = .tup [.v (.int .i64 (rint s i).1), .v (.int .i64 (rint s i).2.1)] ∧ cs = rdr s (rint s i).2.2) := by
  obtain ⟨b1, b2, b3⟩ := vread_bound s i hi
  have hv := vread_H s i hi hs
  obtain ⟨r, hr⟩ : ∃ r, r = vread s i := ⟨_, rfl⟩
  unfold rint
  rw [← hr] at hv b1 b2 b3 ⊢
  clear hr
  obtain ⟨x, n, e⟩ := r
  dsimp only at b1 b2 b3 ⊢
  refine hrcv (N := 30) Try.func27 rfl Try.ntmps27 Try.results27 (by simp) ?_
  simp only [rdr, List.map_cons, List.map_nil]
  (repeat first | refine HW_seq ?_ | refine hseqQ_normal ?_ | refine HW_skip ?_ | refine hblkQ_normal ?_ | refine HW_block ?_); refine HW_reg (fun K hK => ?_); simp (maxSteps := 2000000) (disch := omega) only [push_cast, ↓Int.cast_ofNat_Int, Nat.reduceBEq, Nat.reduceAdd, Nat.reduceLT, Nat.reduceEqDiff, reduceIte, reduceCtorEq, Nat.reduceLeDiff, Nat.reduceSub, List.reduceReplicate, Nat.reduceMul, Int.reduceToNat, Int.toNat_natCast, Nat.reducePow, reduceIte, cond_true', ltT, ltF, leT, leF, eqT, eqF, getD_map, wr64, toNat_succ, toNat_add]; refine hK _ ?_; clear hK K
  (repeat first | refine HW_seq ?_ | refine hseqQ_normal ?_ | refine HW_skip ?_ | refine hblkQ_normal ?_ | refine HW_block ?_)
  (repeat first | refine HW_seq ?_ | refine hseqQ_normal ?_ | refine HW_skip ?_ | refine hblkQ_normal ?_ | refine HW_block ?_); refine HW_reg (fun K hK => ?_); simp (maxSteps := 2000000) (disch := omega) only [push_cast, ↓Int.cast_ofNat_Int, Nat.reduceBEq, Nat.reduceAdd, Nat.reduceLT, Nat.reduceEqDiff, reduceIte, reduceCtorEq, Nat.reduceLeDiff, Nat.reduceSub, List.reduceReplicate, Nat.reduceMul, Int.reduceToNat, Int.toNat_natCast, Nat.reducePow, reduceIte, cond_true', ltT, ltF, leT, leF, eqT, eqF, getD_map, wr64, toNat_succ, toNat_add]; refine hK _ ?_; clear hK K
  refine HW_false rfl ?_
  (repeat first | refine HW_seq ?_ | refine hseqQ_normal ?_ | refine HW_skip ?_ | refine hblkQ_normal ?_ | refine HW_block ?_)
  (repeat first | refine HW_seq ?_ | refine hseqQ_normal ?_ | refine HW_skip ?_ | refine hblkQ_normal ?_ | refine HW_block ?_); refine HW_reg (fun K hK => ?_); simp (maxSteps := 2000000) (disch := omega) only [push_cast, ↓Int.cast_ofNat_Int, Nat.reduceBEq, Nat.reduceAdd, Nat.reduceLT, Nat.reduceEqDiff, reduceIte, reduceCtorEq, Nat.reduceLeDiff, Nat.reduceSub, List.reduceReplicate, Nat.reduceMul, Int.reduceToNat, Int.toNat_natCast, Nat.reducePow, reduceIte, cond_true', ltT, ltF, leT, leF, eqT, eqF, getD_map, wr64, toNat_succ, toNat_add]
  refine hatP (args := []) cl57 rfl hv ?_
  rintro _ _ ⟨rfl, rfl⟩
  simp only [vtup, rdr, List.map_cons, List.map_nil]
  with_reducible refine hstop ?_; simp (maxSteps := 2000000) (disch := omega) only [push_cast, ↓Int.cast_ofNat_Int, Nat.reduceBEq, Nat.reduceAdd, Nat.reduceLT, Nat.reduceEqDiff, reduceIte, reduceCtorEq, Nat.reduceLeDiff, Nat.reduceSub, List.reduceReplicate, Nat.reduceMul, Int.reduceToNat, Int.toNat_natCast, Nat.reducePow, reduceIte, cond_true', ltT, ltF, leT, leF, eqT, eqF, getD_map, wr64, toNat_succ, toNat_add]
  refine hK _ ?_; clear hK K
  by_cases he : e = 0
  · rw [if_pos he, if_neg (by omega)]
    (repeat first | refine HW_seq ?_ | refine hseqQ_normal ?_ | refine HW_skip ?_ | refine hblkQ_normal ?_ | refine HW_block ?_); refine HW_reg (fun K hK => ?_); simp (maxSteps := 2000000) (disch := omega) only [push_cast, ↓Int.cast_ofNat_Int, Nat.reduceBEq, Nat.reduceAdd, Nat.reduceLT, Nat.reduceEqDiff, reduceIte, reduceCtorEq, Nat.reduceLeDiff, Nat.reduceSub, List.reduceReplicate, Nat.reduceMul, Int.reduceToNat, Int.toNat_natCast, Nat.reducePow, reduceIte, cond_true', ltT, ltF, leT, leF, eqT, eqF, getD_map, wr64, toNat_succ, toNat_add]; refine hK _ ?_; clear hK K
    refine HW_false rfl ?_
    (repeat first | refine HW_seq ?_ | refine hseqQ_normal ?_ | refine HW_skip ?_ | refine hblkQ_normal ?_ | refine HW_block ?_)
    (repeat first | refine HW_seq ?_ | refine hseqQ_normal ?_ | refine HW_skip ?_ | refine hblkQ_normal ?_ | refine HW_block ?_); refine HW_reg (fun K hK => ?_); simp (maxSteps := 2000000) (disch := omega) only [push_cast, ↓Int.cast_ofNat_Int, Nat.reduceBEq, Nat.reduceAdd, Nat.reduceLT, Nat.reduceEqDiff, reduceIte, reduceCtorEq, Nat.reduceLeDiff, Nat.reduceSub, List.reduceReplicate, Nat.reduceMul, Int.reduceToNat, Int.toNat_natCast, Nat.reducePow, reduceIte, cond_true', ltT, ltF, leT, leF, eqT, eqF, getD_map, wr64, toNat_succ, toNat_add]; refine hK _ ?_; clear hK K
    have e1 := uz_eq b1
    (repeat first | refine HW_seq ?_ | refine hseqQ_normal ?_ | refine HW_skip ?_ | refine hblkQ_normal ?_ | refine HW_block ?_); refine HW_reg (fun K hK => ?_); simp (maxSteps := 2000000) (disch := omega) only [push_cast, ↓Int.cast_ofNat_Int, Nat.reduceBEq, Nat.reduceAdd, Nat.reduceLT, Nat.reduceEqDiff, reduceIte, reduceCtorEq, Nat.reduceLeDiff, Nat.reduceSub, List.reduceReplicate, Nat.reduceMul, Int.reduceToNat, Int.toNat_natCast, Nat.reducePow, reduceIte, cond_true', ltT, ltF, leT, leF, eqT, eqF, getD_map, wr64, toNat_succ, toNat_add, uz_def, e1]
    refine ⟨by decide, ?_⟩
    refine hK _ ?_; clear hK K
    (repeat first | refine hseqQ_ret ?_ | refine hseqQ_exit ?_ | refine hblkQ_exit ?_ | refine hblkQ_other rfl ?_ | refine hblkQ_ret ?_ | refine hblkQ_normal ?_ | refine HW_seq ?_ | refine hseqQ_normal ?_ | refine HW_skip ?_ | refine HW_exit ?_ | refine HW_ret ?_)
    simp only [hrcvQ_normal, hrcvQ_ret, hfunQ_normal, hfunQ_ret, resH_nil, resH_cons, htup_one, htup_two, hlk_nil, hlk_cons, Nat.reduceEqDiff, reduceIte, reduceCtorEq]
    exact hrcv_t (cells := rdr s (i + n)) (xs := [.int .i64 (unzz x), .int .i64 0]) rfl rfl ⟨rfl, rfl⟩
  · rw [if_neg he, if_pos he]
    (repeat first | refine HW_seq ?_ | refine hseqQ_normal ?_ | refine HW_skip ?_ | refine hblkQ_normal ?_ | refine HW_block ?_); refine HW_reg (fun K hK => ?_); simp (maxSteps := 2000000) (disch := omega) only [push_cast, ↓Int.cast_ofNat_Int, Nat.reduceBEq, Nat.reduceAdd, Nat.reduceLT, Nat.reduceEqDiff, reduceIte, reduceCtorEq, Nat.reduceLeDiff, Nat.reduceSub, List.reduceReplicate, Nat.reduceMul, Int.reduceToNat, Int.toNat_natCast, Nat.reducePow, reduceIte, cond_true', ltT, ltF, leT, leF, eqT, eqF, getD_map, wr64, toNat_succ, toNat_add]; refine hK _ ?_; clear hK K
    refine HW_true rfl ?_
    (repeat first | refine HW_seq ?_ | refine hseqQ_normal ?_ | refine HW_skip ?_ | refine hblkQ_normal ?_ | refine HW_block ?_); refine HW_reg (fun K hK => ?_); simp (maxSteps := 2000000) (disch := omega) only [push_cast, ↓Int.cast_ofNat_Int, Nat.reduceBEq, Nat.reduceAdd, Nat.reduceLT, Nat.reduceEqDiff, reduceIte, reduceCtorEq, Nat.reduceLeDiff, Nat.reduceSub, List.reduceReplicate, Nat.reduceMul, Int.reduceToNat, Int.toNat_natCast, Nat.reducePow, reduceIte, cond_true', ltT, ltF, leT, leF, eqT, eqF, getD_map, wr64, toNat_succ, toNat_add]; refine hK _ ?_; clear hK K
    (repeat first | refine hseqQ_ret ?_ | refine hseqQ_exit ?_ | refine hblkQ_exit ?_ | refine hblkQ_other rfl ?_ | refine hblkQ_ret ?_ | refine hblkQ_normal ?_ | refine HW_seq ?_ | refine hseqQ_normal ?_ | refine HW_skip ?_ | refine HW_exit ?_ | refine HW_ret ?_)
    simp only [hrcvQ_normal, hrcvQ_ret, hfunQ_normal, hfunQ_ret, resH_nil, resH_cons, htup_one, htup_two, hlk_nil, hlk_cons, Nat.reduceEqDiff, reduceIte, reduceCtorEq]
    exact hrcv_t (cells := rdr s i) (xs := [.int .i64 0, .int .i64 e]) rfl rfl ⟨rfl, rfl⟩
/-- the text that is read, the error, the place then -/
def subS (s : ByteArray) (i j : Nat) : ByteArray := s.extract i j
def rtext (s : ByteArray) (i : Nat) : ByteArray × Nat × Nat :=
  if (ruint s i).2.1 ≠ 0 then (⟨#[]⟩, (ruint s i).2.1, i) else if s.size - (ruint s i).2.2 < (ruint s i).1 then (⟨#[]⟩, 2, i) else
    (s.extract (ruint s i).2.2 ((ruint s i).2.2 + (ruint s i).1), 0, (ruint s i).2.2 + (ruint s i).1)
theorem ruint_bound (s : ByteArray) (i : Nat) (hi : i ≤ s.size) : (ruint s i).1 ≤ 9223372036854775807 ∧ (ruint s i).2.2 ≤ s.size ∧ (ruint s i).2.1 ≤ 3 := by
  obtain ⟨b1, b2, b3⟩ := vread_bound s i hi
  unfold ruint
  split
  · exact ⟨by simp, hi, b3⟩
  · split
    · exact ⟨by simp, hi, by simp⟩
    · exact ⟨by show (vread s i).1 ≤ _; omega, b2, by simp⟩
set_option maxHeartbeats 4000000 in
theorem rtext_H (s : ByteArray) (i : Nat) (hi : i ≤ s.size) (hs : s.size ≤ 140737488355328) : HRcv Try.prog 28 82 (rdr s i) [] (fun h cs => h = .tup [.v (.string (rtext s i).1), .v (.int .i64 (rtext s i).2.1)] ∧ cs = rdr s (rtext s i).2.2) := by
  obtain ⟨b1, b2, b3⟩ := ruint_bound s i hi
  have hv := ruint_H s i hi hs
  obtain ⟨r, hr⟩ : ∃ r, r = ruint s i := ⟨_, rfl⟩
  unfold rtext
  rw [← hr] at hv b1 b2 b3 ⊢
  have hne : r.2.1 ≠ 0 → r.2.2 = i := fun h => by
    rw [hr] at h ⊢
    unfold ruint at h ⊢
    (repeat' split) <;> simp_all
  clear hr
  obtain ⟨x, e, p⟩ := r
  dsimp only at b1 b2 b3 hne ⊢
  refine hrcv (N := 56) Try.func28 rfl Try.ntmps28 Try.results28 (by simp) ?_
  simp only [rdr, List.map_cons, List.map_nil] at hv ⊢
  (repeat first | refine HW_seq ?_ | refine hseqQ_normal ?_ | refine HW_skip ?_ | refine hblkQ_normal ?_ | refine HW_block ?_); refine HW_reg (fun K hK => ?_); simp (maxSteps := 2000000) (disch := omega) only [push_cast, ↓Int.cast_ofNat_Int, Nat.reduceBEq, Nat.reduceAdd, Nat.reduceLT, Nat.reduceEqDiff, reduceIte, reduceCtorEq, Nat.reduceLeDiff, Nat.reduceSub, List.reduceReplicate, Nat.reduceMul, Int.reduceToNat, Int.toNat_natCast, Nat.reducePow, reduceIte, cond_true', ltT, ltF, leT, leF, eqT, eqF, getD_map, wr64, toNat_succ, toNat_add]; refine hK _ ?_; clear hK K
  (repeat first | refine HW_seq ?_ | refine hseqQ_normal ?_ | refine HW_skip ?_ | refine hblkQ_normal ?_ | refine HW_block ?_)
  (repeat first | refine HW_seq ?_ | refine hseqQ_normal ?_ | refine HW_skip ?_ | refine hblkQ_normal ?_ | refine HW_block ?_); refine HW_reg (fun K hK => ?_); simp (maxSteps := 2000000) (disch := omega) only [push_cast, ↓Int.cast_ofNat_Int, Nat.reduceBEq, Nat.reduceAdd, Nat.reduceLT, Nat.reduceEqDiff, reduceIte, reduceCtorEq, Nat.reduceLeDiff, Nat.reduceSub, List.reduceReplicate, Nat.reduceMul, Int.reduceToNat, Int.toNat_natCast, Nat.reducePow, reduceIte, cond_true', ltT, ltF, leT, leF, eqT, eqF, getD_map, wr64, toNat_succ, toNat_add]; refine hK _ ?_; clear hK K
  refine HW_false rfl ?_
  (repeat first | refine HW_seq ?_ | refine hseqQ_normal ?_ | refine HW_skip ?_ | refine hblkQ_normal ?_ | refine HW_block ?_)
  (repeat first | refine HW_seq ?_ | refine hseqQ_normal ?_ | refine HW_skip ?_ | refine hblkQ_normal ?_ | refine HW_block ?_); refine HW_reg (fun K hK => ?_); simp (maxSteps := 2000000) (disch := omega) only [push_cast, ↓Int.cast_ofNat_Int, Nat.reduceBEq, Nat.reduceAdd, Nat.reduceLT, Nat.reduceEqDiff, reduceIte, reduceCtorEq, Nat.reduceLeDiff, Nat.reduceSub, List.reduceReplicate, Nat.reduceMul, Int.reduceToNat, Int.toNat_natCast, Nat.reducePow, reduceIte, cond_true', ltT, ltF, leT, leF, eqT, eqF, getD_map, wr64, toNat_succ, toNat_add]; refine hK _ ?_; clear hK K
  (repeat first | refine HW_seq ?_ | refine hseqQ_normal ?_ | refine HW_skip ?_ | refine hblkQ_normal ?_ | refine HW_block ?_); refine HW_reg (fun K hK => ?_); simp (maxSteps := 2000000) (disch := omega) only [push_cast, ↓Int.cast_ofNat_Int, Nat.reduceBEq, Nat.reduceAdd, Nat.reduceLT, Nat.reduceEqDiff, reduceIte, reduceCtorEq, Nat.reduceLeDiff, Nat.reduceSub, List.reduceReplicate, Nat.reduceMul, Int.reduceToNat, Int.toNat_natCast, Nat.reducePow, reduceIte, cond_true', ltT, ltF, leT, leF, eqT, eqF, getD_map, wr64, toNat_succ, toNat_add]
  refine hatP (args := []) cl26 rfl hv ?_
  rintro _ _ ⟨rfl, rfl⟩
  simp only [List.map_cons, List.map_nil]
  with_reducible refine hstop ?_; simp (maxSteps := 2000000) (disch := omega) only [push_cast, ↓Int.cast_ofNat_Int, Nat.reduceBEq, Nat.reduceAdd, Nat.reduceLT, Nat.reduceEqDiff, reduceIte, reduceCtorEq, Nat.reduceLeDiff, Nat.reduceSub, List.reduceReplicate, Nat.reduceMul, Int.reduceToNat, Int.toNat_natCast, Nat.reducePow, reduceIte, cond_true', ltT, ltF, leT, leF, eqT, eqF, getD_map, wr64, toNat_succ, toNat_add]
  refine hK _ ?_; clear hK K
  by_cases he : e = 0
  · rw [if_neg (by omega)]
    have hl := left_H s p b2 hs
    by_cases hx : s.size - p < x
    · rw [if_pos hx]
      (repeat first | refine HW_seq ?_ | refine hseqQ_normal ?_ | refine HW_skip ?_ | refine hblkQ_normal ?_ | refine HW_block ?_); refine HW_reg (fun K hK => ?_); simp (maxSteps := 2000000) (disch := omega) only [push_cast, ↓Int.cast_ofNat_Int, Nat.reduceBEq, Nat.reduceAdd, Nat.reduceLT, Nat.reduceEqDiff, reduceIte, reduceCtorEq, Nat.reduceLeDiff, Nat.reduceSub, List.reduceReplicate, Nat.reduceMul, Int.reduceToNat, Int.toNat_natCast, Nat.reducePow, reduceIte, cond_true', ltT, ltF, leT, leF, eqT, eqF, getD_map, wr64, toNat_succ, toNat_add]
      refine hatP (args := []) cl29 rfl hl ?_
      rintro _ _ ⟨rfl, rfl⟩
      simp only [rdr, List.map_cons, List.map_nil]
      with_reducible refine hstop ?_; simp (maxSteps := 2000000) (disch := omega) only [push_cast, ↓Int.cast_ofNat_Int, Nat.reduceBEq, Nat.reduceAdd, Nat.reduceLT, Nat.reduceEqDiff, reduceIte, reduceCtorEq, Nat.reduceLeDiff, Nat.reduceSub, List.reduceReplicate, Nat.reduceMul, Int.reduceToNat, Int.toNat_natCast, Nat.reducePow, reduceIte, cond_true', ltT, ltF, leT, leF, eqT, eqF, getD_map, wr64, toNat_succ, toNat_add]
      refine hK _ ?_; clear hK K
      refine HW_true rfl ?_
      (repeat first | refine HW_seq ?_ | refine hseqQ_normal ?_ | refine HW_skip ?_ | refine hblkQ_normal ?_ | refine HW_block ?_); refine HW_reg (fun K hK => ?_); simp (maxSteps := 2000000) (disch := omega) only [push_cast, ↓Int.cast_ofNat_Int, Nat.reduceBEq, Nat.reduceAdd, Nat.reduceLT, Nat.reduceEqDiff, reduceIte, reduceCtorEq, Nat.reduceLeDiff, Nat.reduceSub, List.reduceReplicate, Nat.reduceMul, Int.reduceToNat, Int.toNat_natCast, Nat.reducePow, reduceIte, cond_true', ltT, ltF, leT, leF, eqT, eqF, getD_map, wr64, toNat_succ, toNat_add]; refine hK _ ?_; clear hK K
      (repeat first | refine hseqQ_ret ?_ | refine hseqQ_exit ?_ | refine hblkQ_exit ?_ | refine hblkQ_other rfl ?_ | refine hblkQ_ret ?_ | refine hblkQ_normal ?_ | refine HW_seq ?_ | refine hseqQ_normal ?_ | refine HW_skip ?_ | refine HW_exit ?_ | refine HW_ret ?_)
      (repeat first | refine HW_seq ?_ | refine hseqQ_normal ?_ | refine HW_skip ?_ | refine hblkQ_normal ?_ | refine HW_block ?_); refine HW_reg (fun K hK => ?_); simp (maxSteps := 2000000) (disch := omega) only [push_cast, ↓Int.cast_ofNat_Int, Nat.reduceBEq, Nat.reduceAdd, Nat.reduceLT, Nat.reduceEqDiff, reduceIte, reduceCtorEq, Nat.reduceLeDiff, Nat.reduceSub, List.reduceReplicate, Nat.reduceMul, Int.reduceToNat, Int.toNat_natCast, Nat.reducePow, reduceIte, cond_true', ltT, ltF, leT, leF, eqT, eqF, getD_map, wr64, toNat_succ, toNat_add]; refine hK _ ?_; clear hK K
      refine HW_true rfl ?_
      (repeat first | refine HW_seq ?_ | refine hseqQ_normal ?_ | refine HW_skip ?_ | refine hblkQ_normal ?_ | refine HW_block ?_); refine HW_reg (fun K hK => ?_); simp (maxSteps := 2000000) (disch := omega) only [push_cast, ↓Int.cast_ofNat_Int, Nat.reduceBEq, Nat.reduceAdd, Nat.reduceLT, Nat.reduceEqDiff, reduceIte, reduceCtorEq, Nat.reduceLeDiff, Nat.reduceSub, List.reduceReplicate, Nat.reduceMul, Int.reduceToNat, Int.toNat_natCast, Nat.reducePow, reduceIte, cond_true', ltT, ltF, leT, leF, eqT, eqF, getD_map, wr64, toNat_succ, toNat_add]; refine hK _ ?_; clear hK K
      (repeat first | refine HW_seq ?_ | refine hseqQ_normal ?_ | refine HW_skip ?_ | refine hblkQ_normal ?_ | refine HW_block ?_); refine HW_reg (fun K hK => ?_); simp (maxSteps := 2000000) (disch := omega) only [push_cast, ↓Int.cast_ofNat_Int, Nat.reduceBEq, Nat.reduceAdd, Nat.reduceLT, Nat.reduceEqDiff, reduceIte, reduceCtorEq, Nat.reduceLeDiff, Nat.reduceSub, List.reduceReplicate, Nat.reduceMul, Int.reduceToNat, Int.toNat_natCast, Nat.reducePow, reduceIte, cond_true', ltT, ltF, leT, leF, eqT, eqF, getD_map, wr64, toNat_succ, toNat_add]; refine hK _ ?_; clear hK K
      (repeat first | refine hseqQ_ret ?_ | refine hseqQ_exit ?_ | refine hblkQ_exit ?_ | refine hblkQ_other rfl ?_ | refine hblkQ_ret ?_ | refine hblkQ_normal ?_ | refine HW_seq ?_ | refine hseqQ_normal ?_ | refine HW_skip ?_ | refine HW_exit ?_ | refine HW_ret ?_)
      simp only [hrcvQ_normal, hrcvQ_ret, hfunQ_normal, hfunQ_ret, resH_nil, resH_cons, htup_one, htup_two, hlk_nil, hlk_cons, Nat.reduceEqDiff, reduceIte, reduceCtorEq]
      exact hrcv_t (cells := rdr s i) (xs := [.string ⟨#[]⟩, .int .i64 2]) rfl rfl ⟨rfl, rfl⟩
    · rw [if_neg hx]
      (repeat first | refine HW_seq ?_ | refine hseqQ_normal ?_ | refine HW_skip ?_ | refine hblkQ_normal ?_ | refine HW_block ?_); refine HW_reg (fun K hK => ?_); simp (maxSteps := 2000000) (disch := omega) only [push_cast, ↓Int.cast_ofNat_Int, Nat.reduceBEq, Nat.reduceAdd, Nat.reduceLT, Nat.reduceEqDiff, reduceIte, reduceCtorEq, Nat.reduceLeDiff, Nat.reduceSub, List.reduceReplicate, Nat.reduceMul, Int.reduceToNat, Int.toNat_natCast, Nat.reducePow, reduceIte, cond_true', ltT, ltF, leT, leF, eqT, eqF, getD_map, wr64, toNat_succ, toNat_add]
      refine hatP (args := []) cl29 rfl hl ?_
      rintro _ _ ⟨rfl, rfl⟩
      simp only [rdr, List.map_cons, List.map_nil]
      with_reducible refine hstop ?_; simp (maxSteps := 2000000) (disch := omega) only [push_cast, ↓Int.cast_ofNat_Int, Nat.reduceBEq, Nat.reduceAdd, Nat.reduceLT, Nat.reduceEqDiff, reduceIte, reduceCtorEq, Nat.reduceLeDiff, Nat.reduceSub, List.reduceReplicate, Nat.reduceMul, Int.reduceToNat, Int.toNat_natCast, Nat.reducePow, reduceIte, cond_true', ltT, ltF, leT, leF, eqT, eqF, getD_map, wr64, toNat_succ, toNat_add]
      refine hK _ ?_; clear hK K
      refine HW_false rfl ?_
      (repeat first | refine HW_seq ?_ | refine hseqQ_normal ?_ | refine HW_skip ?_ | refine hblkQ_normal ?_ | refine HW_block ?_)
      (repeat first | refine HW_seq ?_ | refine hseqQ_normal ?_ | refine HW_skip ?_ | refine hblkQ_normal ?_ | refine HW_block ?_); refine HW_reg (fun K hK => ?_); simp (maxSteps := 2000000) (disch := omega) only [push_cast, ↓Int.cast_ofNat_Int, Nat.reduceBEq, Nat.reduceAdd, Nat.reduceLT, Nat.reduceEqDiff, reduceIte, reduceCtorEq, Nat.reduceLeDiff, Nat.reduceSub, List.reduceReplicate, Nat.reduceMul, Int.reduceToNat, Int.toNat_natCast, Nat.reducePow, reduceIte, cond_true', ltT, ltF, leT, leF, eqT, eqF, getD_map, wr64, toNat_succ, toNat_add]; refine hK _ ?_; clear hK K
      refine HW_false rfl ?_
      (repeat first | refine HW_seq ?_ | refine hseqQ_normal ?_ | refine HW_skip ?_ | refine hblkQ_normal ?_ | refine HW_block ?_)
      (repeat first | refine HW_seq ?_ | refine hseqQ_normal ?_ | refine HW_skip ?_ | refine hblkQ_normal ?_ | refine HW_block ?_); refine HW_reg (fun K hK => ?_); simp (maxSteps := 2000000) (disch := omega) only [push_cast, ↓Int.cast_ofNat_Int, Nat.reduceBEq, Nat.reduceAdd, Nat.reduceLT, Nat.reduceEqDiff, reduceIte, reduceCtorEq, Nat.reduceLeDiff, Nat.reduceSub, List.reduceReplicate, Nat.reduceMul, Int.reduceToNat, Int.toNat_natCast, Nat.reducePow, reduceIte, cond_true', ltT, ltF, leT, leF, eqT, eqF, getD_map, wr64, toNat_succ, toNat_add]; refine hK _ ?_; clear hK K
      have e9 : ((p : Int) + (x : Int) - (x : Int)).toNat = p := by omega
      (repeat first | refine HW_seq ?_ | refine hseqQ_normal ?_ | refine HW_skip ?_ | refine hblkQ_normal ?_ | refine HW_block ?_); refine HW_drw 17 mixed (by kernel_rfl) (fun K hK => ?_); simp (maxSteps := 2000000) (disch := omega) only [push_cast, ↓Int.cast_ofNat_Int, Nat.reduceBEq, Nat.reduceAdd, Nat.reduceLT, Nat.reduceEqDiff, reduceIte, reduceCtorEq, Nat.reduceLeDiff, Nat.reduceSub, List.reduceReplicate, Nat.reduceMul, Int.reduceToNat, Int.toNat_natCast, Nat.reducePow, reduceIte, cond_true', ltT, ltF, leT, leF, eqT, eqF, getD_map, wr64, toNat_succ, toNat_add, e9]
      refine ⟨⟨by omega, by omega, by omega⟩, ?_⟩
      with_reducible refine hstop ?_; simp (maxSteps := 2000000) (disch := omega) only [push_cast, ↓Int.cast_ofNat_Int, Nat.reduceBEq, Nat.reduceAdd, Nat.reduceLT, Nat.reduceEqDiff, reduceIte, reduceCtorEq, Nat.reduceLeDiff, Nat.reduceSub, List.reduceReplicate, Nat.reduceMul, Int.reduceToNat, Int.toNat_natCast, Nat.reducePow, reduceIte, cond_true', ltT, ltF, leT, leF, eqT, eqF, getD_map, wr64, toNat_succ, toNat_add]
      refine hK _ ?_; clear hK K
      (repeat first | refine hseqQ_ret ?_ | refine hseqQ_exit ?_ | refine hblkQ_exit ?_ | refine hblkQ_other rfl ?_ | refine hblkQ_ret ?_ | refine hblkQ_normal ?_ | refine HW_seq ?_ | refine hseqQ_normal ?_ | refine HW_skip ?_ | refine HW_exit ?_ | refine HW_ret ?_)
      simp only [hrcvQ_normal, hrcvQ_ret, hfunQ_normal, hfunQ_ret, resH_nil, resH_cons, htup_one, htup_two, hlk_nil, hlk_cons, Nat.reduceEqDiff, reduceIte, reduceCtorEq]
      exact hrcv_t (cells := rdr s (p + x)) (xs := [.string (s.extract p (p + x)), .int .i64 0]) rfl rfl ⟨rfl, rfl⟩
  · obtain rfl := hne he
    rw [if_pos he]
    (repeat first | refine HW_seq ?_ | refine hseqQ_normal ?_ | refine HW_skip ?_ | refine hblkQ_normal ?_ | refine HW_block ?_); refine HW_reg (fun K hK => ?_); simp (maxSteps := 2000000) (disch := omega) only [push_cast, ↓Int.cast_ofNat_Int, Nat.reduceBEq, Nat.reduceAdd, Nat.reduceLT, Nat.reduceEqDiff, reduceIte, reduceCtorEq, Nat.reduceLeDiff, Nat.reduceSub, List.reduceReplicate, Nat.reduceMul, Int.reduceToNat, Int.toNat_natCast, Nat.reducePow, reduceIte, cond_true', ltT, ltF, leT, leF, eqT, eqF, getD_map, wr64, toNat_succ, toNat_add]; refine hK _ ?_; clear hK K
    refine HW_false rfl ?_
    (repeat first | refine HW_seq ?_ | refine hseqQ_normal ?_ | refine HW_skip ?_ | refine hblkQ_normal ?_ | refine HW_block ?_)
    (repeat first | refine HW_seq ?_ | refine hseqQ_normal ?_ | refine HW_skip ?_ | refine hblkQ_normal ?_ | refine HW_block ?_); refine HW_reg (fun K hK => ?_); simp (maxSteps := 2000000) (disch := omega) only [push_cast, ↓Int.cast_ofNat_Int, Nat.reduceBEq, Nat.reduceAdd, Nat.reduceLT, Nat.reduceEqDiff, reduceIte, reduceCtorEq, Nat.reduceLeDiff, Nat.reduceSub, List.reduceReplicate, Nat.reduceMul, Int.reduceToNat, Int.toNat_natCast, Nat.reducePow, reduceIte, cond_true', ltT, ltF, leT, leF, eqT, eqF, getD_map, wr64, toNat_succ, toNat_add]; refine hK _ ?_; clear hK K
    refine HW_true rfl ?_
    (repeat first | refine HW_seq ?_ | refine hseqQ_normal ?_ | refine HW_skip ?_ | refine hblkQ_normal ?_ | refine HW_block ?_); refine HW_reg (fun K hK => ?_); simp (maxSteps := 2000000) (disch := omega) only [push_cast, ↓Int.cast_ofNat_Int, Nat.reduceBEq, Nat.reduceAdd, Nat.reduceLT, Nat.reduceEqDiff, reduceIte, reduceCtorEq, Nat.reduceLeDiff, Nat.reduceSub, List.reduceReplicate, Nat.reduceMul, Int.reduceToNat, Int.toNat_natCast, Nat.reducePow, reduceIte, cond_true', ltT, ltF, leT, leF, eqT, eqF, getD_map, wr64, toNat_succ, toNat_add]; refine hK _ ?_; clear hK K
    (repeat first | refine HW_seq ?_ | refine hseqQ_normal ?_ | refine HW_skip ?_ | refine hblkQ_normal ?_ | refine HW_block ?_); refine HW_reg (fun K hK => ?_); simp (maxSteps := 2000000) (disch := omega) only [push_cast, ↓Int.cast_ofNat_Int, Nat.reduceBEq, Nat.reduceAdd, Nat.reduceLT, Nat.reduceEqDiff, reduceIte, reduceCtorEq, Nat.reduceLeDiff, Nat.reduceSub, List.reduceReplicate, Nat.reduceMul, Int.reduceToNat, Int.toNat_natCast, Nat.reducePow, reduceIte, cond_true', ltT, ltF, leT, leF, eqT, eqF, getD_map, wr64, toNat_succ, toNat_add]; refine hK _ ?_; clear hK K
    (repeat first | refine hseqQ_ret ?_ | refine hseqQ_exit ?_ | refine hblkQ_exit ?_ | refine hblkQ_other rfl ?_ | refine hblkQ_ret ?_ | refine hblkQ_normal ?_ | refine HW_seq ?_ | refine hseqQ_normal ?_ | refine HW_skip ?_ | refine HW_exit ?_ | refine HW_ret ?_)
    simp only [hrcvQ_normal, hrcvQ_ret, hfunQ_normal, hfunQ_ret, resH_nil, resH_cons, htup_one, htup_two, hlk_nil, hlk_cons, Nat.reduceEqDiff, reduceIte, reduceCtorEq]
    exact hrcv_t (cells := rdr s p) (xs := [.string ⟨#[]⟩, .int .i64 e]) rfl rfl ⟨rfl, rfl⟩
end Go.Proofs.Ytppnicpbncfhnaa
