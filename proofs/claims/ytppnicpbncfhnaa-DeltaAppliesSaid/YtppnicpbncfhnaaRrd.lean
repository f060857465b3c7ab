/-
  The reference's reading of a number.
-/
import Derived.Test.YtppnicpbncfhnaaRdi
set_option linter.unusedSimpArgs false
set_option linter.unusedVariables false
set_option maxRecDepth 20000
namespace Go.Proofs.Ytppnicpbncfhnaa
open Go Go.Eng Go.RowKit
attribute [local push_cast] ev_tmp ev_const ev_global ev_func evs_nil evs_cons stp_some stp_none dsts_nil dsts_cons argsE_nil argsE_cons intBin_add intBin_sub intBin_mul intBin_quo intBin_rem intBin_and intBin_or intBin_xor intBin_andNot intBin_eql intBin_neq intBin_lss intBin_leq intBin_gtr intBin_geq intBin_shl intBin_shr strBin_add strBin_eql strBin_neq strBin_lss strBin_leq strBin_gtr strBin_geq pureBin_int pureBin_str pureBin_beq pureBin_bne pureBin_peq pureBin_pne pureBin_seq pureBin_sne pureBin_agg effEq_eql effEq_neq pureUn_not pureUn_neg pureUn_xor pureConv_int pureConv_str pureField_eq pureIndexAddr_s pureIndexAddr_p pureIndex_s oInt_none oInt_some pureSlice_str pureSlice_sl pureB_len pureB_lens pureB_cap pureB_max pureB_min pureB_app pureB_copy po_move po_assign po_pick po_bin po_un po_conv po_field po_extract po_faddr po_iaddr po_index po_slice po_nil po_builtin po_call po_load po_store po_alloc po_box po_build po_buildS po_makeS eo_load eo_store eo_build eo_buildS eo_makeS eo_app eo_call eo_bin eq_load eq_build eq_call eq_bin parts_nil parts_cons outG_none outG_some dstOk_none dstOk_some out_eq outR_eq outOp_eq outQ_eq imm_load immQ_load imm_alloc imm_box imm_store imm_build imm_call imm_bin immQ_build immQ_call immQ_bin imm_buildS imm_makeS v2_nil v2_cons vq_nil vq_cons undef_eq
attribute [local push_cast] List.take_succ_cons List.take_zero List.drop_succ_cons List.drop_zero true_and and_true Option.isSome_some List.getElem?_cons_zero List.getElem?_cons_succ List.length_cons List.length_nil cond_true cond_false Int.toNat_natCast Nat.mul_one Nat.add_zero Nat.zero_add Addr.add_lit bne_self_eq_false beq_self_eq_true Bool.not_true Bool.not_false List.size_toArray Array.getD_eq_getD_getElem? List.getElem?_toArray Option.getD_some decide_true decide_false eq_self Bool.true_beq Bool.false_beq List.getD_cons_zero List.getD_cons_succ List.map_cons List.map_nil List.set_cons_zero List.set_cons_succ List.replicate_zero List.toList_toArray List.all_toArray List.all_cons List.all_nil Bool.and_self Bool.and_true Bool.true_and Bool.and_false Bool.false_and List.length_map List.length_append List.length_replicate List.length_set List.cons_append List.nil_append cond_triv Option.isSome_some Option.isSome_none beq_true beq_false Bool.not_false Option.map_some Bool.true_or Bool.false_or Bool.or_true Bool.or_false Bool.false_xor Bool.true_xor and_self beq_self_eq_true fv_default List.flatMap_cons List.flatMap_nil List.append_nil
attribute [local push_cast] lk_lo hlk_nil hlk_cons rlk_nil rlk_cons hev_tmp hev_const hev_global hev_func hevs_nil hevs_cons leaf_v leaf_none leaf_lst leaf_own leaf_ptr leaf_elt leaf_agg leaf_tup leaf_vw leaf_junk hPure_some hPure_none hop_eq heff_move heff_assign heff_pick heff_extract heff_field heff_faddr heff_nilc heff_iaddr heff_slice heff_load heff_store heff_alloc heff_box heff_build heff_buildS heff_makeS heff_len heff_app heff_callf heff_eql heff_neq heff_conv hMove_eq hPick_eq hExtract_eq hField_one hField_sub hFAddr_ptr hFAddr_elt hNil_ptr hNil_elt hIAddr_own hIAddr_lst hIAddr_ptr hIAddr_elt hIAddrR_eq hIAddrL_eq hIAddrP_eq hIAddrE_eq hLen_vw hSlice_own hSlice_vw hSliceR_eq hSliceV_eq rlen_sl hIAddr_vw hIAddrV_eq newsOf_vw hcells_vw hone_vw hkill_vw hren_vw hsub_vw ownIds_vw ownCell_vw hLen_own hLen_lst hLenR_hl hIAddrR_hl hLenR_eq hSlice_eq hSliceL_eq hLoad_ptr hLoad_elt hLoadR_sl hLoadR_sla hLoadR_bx hLoadR_bxa hLoadR_hl hLoadR_hla hStoreR_hl hStoreH_one hStoreH_agg hLoadE_one hLoadE_agg hStore_eq hStoreR_sl hStoreR_bx hStoreS_one hStoreS_agg hStoreB_one hStoreB_agg hAlloc_eq hBox_eq hBoxC_eq partsH_nil partsH_cons hfill_nil hfill_cons hBuild_eq hBuildF_eq hlit_nil hlit_cons hBuildS_eq allF_nil allF_cons hlitH_nil hlitH_cons hkl_eq hBuildSE_t hBuildSE_f hBuildSH_eq hBuildSF_eq hMake_eq newsOf_own newsOf_lst newsOf_nil hAppend_own newsH_own newsH_lst newsH_nil arr2_eq newsA_t newsA_f newsS_str hAppend_nil hAppR_hl hAppH_eq hAppR_eq hAppN_eq leafs_nil leafs_cons hEq_eq hEq_ptr hEq_elt hConv_str hConv_own hConv_lst hConvR_eq hConvL_eq bytesH_nil bytesH_cons hEqL_eq hCall_eq ats0_eq oneAll_eq hf_v hf_own hf_vw hf_ptr hf_lst hfs_nil hfs_cons fone_v fone_lst hone_v hone_lst hone_own hone_ptr fh_v fh_lst one_int hcellv_int one_bool hcellv_bool one_str hcellv_str one_slice hcellv_slice one_ptr hcellv_ptr hcells_agg hcells_lst hcells_own hcells_ptr splice_eq kill_eq row_eq set_some set_none rep_eq hrep_nil hrep_cons ekill_nil ekill_cons skill_nil skill_cons rkill_sl rkill_hl rkill_bx hkill_v hren_v hsub_v hkill_lst hren_lst hsub_lst hkill_elt hren_elt hsub_elt hkill_junk hren_junk hsub_junk hkill_own hkill_ptr hkill_agg hkill_tup hren_own hren_ptr hren_agg hren_tup hsub_own hsub_ptr hsub_agg hsub_tup rren_sl rren_hl rren_bx rsub_sl rsub_hl rsub_bx only_eq eight_eq sh_eq adds_eq radds_nil radds_cons rest_eq esub_nil esub_cons ssub_nil ssub_cons sset_nil sset_cons hG_none hG_some hGv_bool hGv_tup hgo_go hgo_call hgo_eqn hgo_bytes hgo_eq hgo1_eq hpre_move hpre_assign hpre_pick hpre_extract hpre_field hpre_faddr hpre_nilc hpre_iaddr hpre_slice hpre_load hpre_build hpre_bin hpre_un hpre_conv hpre_index hpre_call hpre_alloc hpre_box hpre_make hpre_store hpre_buildS ownsS_eq ownsR_sl ownsR_bx ownsP_eq ownIds_own ownIds_v ownIds_lst ownIds_agg ownCell_own ownCell_v ownCell_lst restAll_nil restAll_cons restOne_eq ownsR_hl hskip_eq hstep_yes hstep_no hstep_ask hv2_nil hv2_cons hgoq_go hgoq_call hgoq_eqn hgoq_eq hstepq_yes hstepq_no hstepq_ask hvq_nil hvq_cons slotX_tmp slotX_const slotX_global slotX_func slotsL_nil slotsL_cons slotsP_nil slotsP_cons slotO_some slotO_none slotsOf_move slotsOf_assign slotsOf_nilc slotsOf_pick slotsOf_extract slotsOf_field slotsOf_faddr slotsOf_load slotsOf_un slotsOf_conv slotsOf_iaddr slotsOf_index slotsOf_slice slotsOf_bin slotsOf_build slotsOf_buildS slotsOf_makeS slotsOf_call slotG_none slotG_some pickE_nil pickE_cons plainE_nil plainE_v plainE_lst plainE_agg hmade_eq made_buildS made_makeS quiet_buildS quiet_makeS hgor_go hgor_call hgor_eqn hgor_eq hstepr_yes hstepr_no hstepr_ask hvr_nil hvr_cons idOf_some idOf_none quiet_move quiet_assign quiet_pick quiet_extract quiet_field quiet_faddr quiet_nilc quiet_iaddr quiet_slice quiet_load quiet_build quiet_bin quiet_un quiet_conv quiet_index quiet_len quiet_min argsH_nil argsH_cons
attribute [local push_cast] it3 it79 st9 ui5 ui79
/-- what the first n bytes make -/
def xval (l : List Nat) : Nat → Nat
  | 0 => 0
  | n + 1 => xval l n + l.getD n 0 % 128 * 128 ^ n
theorem xval_lt (l : List Nat) : ∀ n, xval l n < 128 ^ n
  | 0 => by simp [xval]
  | n + 1 => by
    have := xval_lt l n
    simp only [xval, Nat.pow_succ]
    have h : l.getD n 0 % 128 * 128 ^ n ≤ 127 * 128 ^ n := Nat.mul_le_mul_right _ (by omega)
    omega
structure RI where
  x : Nat
  j : Nat
def rE1 (s : ByteArray) (n : Nat) : HS := ⟨[(0, .v (.string s)), (5, .v (.int .i64 n))], []⟩
def rE2 (s : ByteArray) (n : Nat) (i : RI) : HS := ⟨[(0, .v (.string s)), (5, .v (.int .i64 n)), (6, .v (.int .u64 i.x)), (7, .v (.int .i64 (i.j - 1)))], []⟩
theorem byte_get (s : ByteArray) {j : Nat} (h : j < s.size) : ∃ c : Nat, byteAt s j = (c : Int) ∧ c < 256 ∧ (sb s).getD j 0 = c ∧ (sb s).drop j = c :: (sb s).drop (j + 1) := by
  obtain ⟨c, h1, h2, h3⟩ := byte_drop s h
  refine ⟨c, h1, h2, ?_, h3⟩
  have hj : j < (sb s).length := by rw [sb_len]; exact h
  rw [List.drop_eq_getElem_cons hj] at h3
  simp only [List.cons.injEq] at h3
  rw [List.getD_eq_getElem?_getD, List.getElem?_eq_getElem hj, Option.getD_some]
  exact h3.1
set_option maxHeartbeats 4000000 in
theorem refRead_H (s : ByteArray) (hs : s.size ≤ 140737488355328) : HFun Try.prog 71 [.v (.string s)] (fun h st => h = .tup ([.int .u64 (vread s 0).1, .int .i64 (vread s 0).2.1, .int .i64 (vread s 0).2.2].map .v)) := by
  refine hfun (N := 61) Try.func71 rfl Try.ntmps71 Try.results71 (by simp) ?_
  (repeat first | refine HW_seq ?_ | refine hseqQ_normal ?_ | refine HW_skip ?_ | refine hblkQ_normal ?_ | refine HW_block ?_); refine HW_reg (fun K hK => ?_); simp (maxSteps := 2000000) (disch := omega) only [push_cast, ↓Int.cast_ofNat_Int, Nat.reduceBEq, Nat.reduceAdd, Nat.reduceLT, Nat.reduceEqDiff, reduceIte, reduceCtorEq, Nat.reduceLeDiff, Nat.reduceSub, List.reduceReplicate, Nat.reduceMul, Int.reduceToNat, Int.toNat_natCast, Nat.reducePow, reduceIte, cond_true', ltT, ltF, leT, leF, eqT, eqF, getD_map, wr64, toNat_succ, toNat_add]; refine hK _ ?_; clear hK K
  (repeat first | refine HW_seq ?_ | refine hseqQ_normal ?_ | refine HW_skip ?_ | refine hblkQ_normal ?_ | refine HW_block ?_); refine HW_reg (fun K hK => ?_); simp (maxSteps := 2000000) (disch := omega) only [push_cast, ↓Int.cast_ofNat_Int, Nat.reduceBEq, Nat.reduceAdd, Nat.reduceLT, Nat.reduceEqDiff, reduceIte, reduceCtorEq, Nat.reduceLeDiff, Nat.reduceSub, List.reduceReplicate, Nat.reduceMul, Int.reduceToNat, Int.toNat_natCast, Nat.reducePow, reduceIte, cond_true', ltT, ltF, leT, leF, eqT, eqF, getD_map, wr64, toNat_succ, toNat_add]; refine hK _ ?_; clear hK K
  (repeat first | refine HW_seq ?_ | refine hseqQ_normal ?_ | refine HW_skip ?_ | refine hblkQ_normal ?_ | refine HW_block ?_)
  refine HW_door 0 (rE1 s) (fun n => n ≤ 9 ∧ n ≤ s.size ∧ vread s 0 = vrd ((sb s).drop n) n (xval (sb s) n) ∧ (n < s.size → n = 9 ∨ (sb s).getD n 0 < 128)) [0, 5] [] ?_ ?_
  · refine HW_loop (rE1 s) (fun n => n ≤ 9 ∧ n ≤ s.size ∧ vread s 0 = vrd ((sb s).drop n) n (xval (sb s) n)) (fun n => 9 - n) [0, 5] [] 0 (by simp only [keep_eq, hkeep_nil, hkeep_cons, rkeep_nil, rkeep_cons, hlk_nil, hlk_cons, rlk_nil, rlk_cons, Nat.reduceEqDiff, reduceIte]; exact rfl) ⟨by simp, by simp, rfl⟩ ?_
    rintro n ⟨hn, hns, hv⟩
    simp only [rE1] at hv ⊢
    by_cases h : n < s.size
    · obtain ⟨c, hc, hc2, hg, hd⟩ := byte_get s h
      by_cases hc3 : 128 ≤ c
      · by_cases h9 : n < 9
        · (repeat first | refine HW_seq ?_ | refine hseqQ_normal ?_ | refine HW_skip ?_ | refine hblkQ_normal ?_ | refine HW_block ?_); refine HW_reg (fun K hK => ?_); simp (maxSteps := 2000000) (disch := omega) only [push_cast, ↓Int.cast_ofNat_Int, Nat.reduceBEq, Nat.reduceAdd, Nat.reduceLT, Nat.reduceEqDiff, reduceIte, reduceCtorEq, Nat.reduceLeDiff, Nat.reduceSub, List.reduceReplicate, Nat.reduceMul, Int.reduceToNat, Int.toNat_natCast, Nat.reducePow, reduceIte, cond_true', ltT, ltF, leT, leF, eqT, eqF, getD_map, wr64, toNat_succ, toNat_add, hc]; (repeat refine ⟨by first | omega | decide | ((repeat' apply And.intro) <;> first | omega | decide), ?_⟩); refine hK _ ?_; clear hK K
          refine HW_true rfl ?_
          (repeat first | refine hseqQ_ret ?_ | refine hseqQ_exit ?_ | refine hblkQ_exit ?_ | refine hblkQ_other rfl ?_ | refine hblkQ_ret ?_ | refine hblkQ_normal ?_ | refine HW_seq ?_ | refine hseqQ_normal ?_ | refine HW_skip ?_ | refine HW_exit ?_ | refine HW_ret ?_)
          (repeat first | refine HW_seq ?_ | refine hseqQ_normal ?_ | refine HW_skip ?_ | refine hblkQ_normal ?_ | refine HW_block ?_); refine HW_reg (fun K hK => ?_); simp (maxSteps := 2000000) (disch := omega) only [push_cast, ↓Int.cast_ofNat_Int, Nat.reduceBEq, Nat.reduceAdd, Nat.reduceLT, Nat.reduceEqDiff, reduceIte, reduceCtorEq, Nat.reduceLeDiff, Nat.reduceSub, List.reduceReplicate, Nat.reduceMul, Int.reduceToNat, Int.toNat_natCast, Nat.reducePow, reduceIte, cond_true', ltT, ltF, leT, leF, eqT, eqF, getD_map, wr64, toNat_succ, toNat_add]; refine hK _ ?_; clear hK K
          (repeat first | refine hseqQ_ret ?_ | refine hseqQ_exit ?_ | refine hblkQ_exit ?_ | refine hblkQ_other rfl ?_ | refine hblkQ_ret ?_ | refine hblkQ_normal ?_ | refine HW_seq ?_ | refine hseqQ_normal ?_ | refine HW_skip ?_ | refine HW_exit ?_ | refine HW_ret ?_)
          refine ⟨n + 1, ?_, ⟨by omega, by omega, ?_⟩, by omega⟩
          · simp only [keep_eq, hkeep_nil, hkeep_cons, rkeep_nil, rkeep_cons, hlk_nil, hlk_cons, rlk_nil, rlk_cons, Nat.reduceEqDiff, reduceIte]; rfl
          · rw [hv, hd, vrd, if_neg (by omega), if_pos hc3, xval, hg]
        · (repeat first | refine HW_seq ?_ | refine hseqQ_normal ?_ | refine HW_skip ?_ | refine hblkQ_normal ?_ | refine HW_block ?_); refine HW_reg (fun K hK => ?_); simp (maxSteps := 2000000) (disch := omega) only [push_cast, ↓Int.cast_ofNat_Int, Nat.reduceBEq, Nat.reduceAdd, Nat.reduceLT, Nat.reduceEqDiff, reduceIte, reduceCtorEq, Nat.reduceLeDiff, Nat.reduceSub, List.reduceReplicate, Nat.reduceMul, Int.reduceToNat, Int.toNat_natCast, Nat.reducePow, reduceIte, cond_true', ltT, ltF, leT, leF, eqT, eqF, getD_map, wr64, toNat_succ, toNat_add, hc]; (repeat refine ⟨by first | omega | decide | ((repeat' apply And.intro) <;> first | omega | decide), ?_⟩); refine hK _ ?_; clear hK K
          refine HW_false rfl ?_
          (repeat first | refine hmeetQ_normal ?_ | refine hmeetQ_ret ?_ | refine hmeetQ_exit ?_ | refine hcutQ_exit ?_ | refine hcutQ_ret ?_ | refine hcutQ_other rfl ?_ | refine hseqQ_ret ?_ | refine hseqQ_exit ?_ | refine hblkQ_exit ?_ | refine hblkQ_other rfl ?_ | refine hblkQ_ret ?_ | refine hblkQ_normal ?_ | refine HW_seq ?_ | refine hseqQ_normal ?_ | refine HW_skip ?_ | refine HW_exit ?_ | refine HW_ret ?_)
          exact ⟨n, (by simp only [keep_eq, hkeep_nil, hkeep_cons, rkeep_nil, rkeep_cons, hlk_nil, hlk_cons, rlk_nil, rlk_cons, Nat.reduceEqDiff, reduceIte]; try rfl), hn, hns, hv, fun _ => .inl (by omega)⟩
      · (repeat first | refine HW_seq ?_ | refine hseqQ_normal ?_ | refine HW_skip ?_ | refine hblkQ_normal ?_ | refine HW_block ?_); refine HW_reg (fun K hK => ?_); simp (maxSteps := 2000000) (disch := omega) only [push_cast, ↓Int.cast_ofNat_Int, Nat.reduceBEq, Nat.reduceAdd, Nat.reduceLT, Nat.reduceEqDiff, reduceIte, reduceCtorEq, Nat.reduceLeDiff, Nat.reduceSub, List.reduceReplicate, Nat.reduceMul, Int.reduceToNat, Int.toNat_natCast, Nat.reducePow, reduceIte, cond_true', ltT, ltF, leT, leF, eqT, eqF, getD_map, wr64, toNat_succ, toNat_add, hc]; (repeat refine ⟨by first | omega | decide | ((repeat' apply And.intro) <;> first | omega | decide), ?_⟩); refine hK _ ?_; clear hK K
        refine HW_false rfl ?_
        (repeat first | refine hmeetQ_normal ?_ | refine hmeetQ_ret ?_ | refine hmeetQ_exit ?_ | refine hcutQ_exit ?_ | refine hcutQ_ret ?_ | refine hcutQ_other rfl ?_ | refine hseqQ_ret ?_ | refine hseqQ_exit ?_ | refine hblkQ_exit ?_ | refine hblkQ_other rfl ?_ | refine hblkQ_ret ?_ | refine hblkQ_normal ?_ | refine HW_seq ?_ | refine hseqQ_normal ?_ | refine HW_skip ?_ | refine HW_exit ?_ | refine HW_ret ?_)
        exact ⟨n, (by simp only [keep_eq, hkeep_nil, hkeep_cons, rkeep_nil, rkeep_cons, hlk_nil, hlk_cons, rlk_nil, rlk_cons, Nat.reduceEqDiff, reduceIte]; try rfl), hn, hns, hv, fun _ => .inr (by rw [hg]; omega)⟩
    · (repeat first | refine HW_seq ?_ | refine hseqQ_normal ?_ | refine HW_skip ?_ | refine hblkQ_normal ?_ | refine HW_block ?_); refine HW_reg (fun K hK => ?_); simp (maxSteps := 2000000) (disch := omega) only [push_cast, ↓Int.cast_ofNat_Int, Nat.reduceBEq, Nat.reduceAdd, Nat.reduceLT, Nat.reduceEqDiff, reduceIte, reduceCtorEq, Nat.reduceLeDiff, Nat.reduceSub, List.reduceReplicate, Nat.reduceMul, Int.reduceToNat, Int.toNat_natCast, Nat.reducePow, reduceIte, cond_true', ltT, ltF, leT, leF, eqT, eqF, getD_map, wr64, toNat_succ, toNat_add]; refine hK _ ?_; clear hK K
      refine HW_false rfl ?_
      (repeat first | refine hmeetQ_normal ?_ | refine hmeetQ_ret ?_ | refine hmeetQ_exit ?_ | refine hcutQ_exit ?_ | refine hcutQ_ret ?_ | refine hcutQ_other rfl ?_ | refine hseqQ_ret ?_ | refine hseqQ_exit ?_ | refine hblkQ_exit ?_ | refine hblkQ_other rfl ?_ | refine hblkQ_ret ?_ | refine hblkQ_normal ?_ | refine HW_seq ?_ | refine hseqQ_normal ?_ | refine HW_skip ?_ | refine HW_exit ?_ | refine HW_ret ?_)
      exact ⟨n, (by simp only [keep_eq, hkeep_nil, hkeep_cons, rkeep_nil, rkeep_cons, hlk_nil, hlk_cons, rlk_nil, rlk_cons, Nat.reduceEqDiff, reduceIte]; try rfl), hn, hns, hv, fun h' => (h h').elim⟩
  rintro S' n hE ⟨hn, hns, hv, hx⟩
  (repeat first | refine hseqQ_ret ?_ | refine hseqQ_exit ?_ | refine hblkQ_exit ?_ | refine hblkQ_other rfl ?_ | refine hblkQ_ret ?_ | refine hblkQ_normal ?_ | refine HW_seq ?_ | refine hseqQ_normal ?_ | refine HW_skip ?_ | refine HW_exit ?_ | refine HW_ret ?_)
  refine HW_keep [0, 5] [] hE ?_
  clear hE
  simp only [rE1]
  by_cases h : n < s.size
  · obtain ⟨c, hc, hc2, hg, hd⟩ := byte_get s h
    rw [hg] at hx
    have hx := hx h
    rw [hd, vrd] at hv
    (repeat first | refine HW_seq ?_ | refine hseqQ_normal ?_ | refine HW_skip ?_ | refine hblkQ_normal ?_ | refine HW_block ?_); refine HW_reg (fun K hK => ?_); simp (maxSteps := 2000000) (disch := omega) only [push_cast, ↓Int.cast_ofNat_Int, Nat.reduceBEq, Nat.reduceAdd, Nat.reduceLT, Nat.reduceEqDiff, reduceIte, reduceCtorEq, Nat.reduceLeDiff, Nat.reduceSub, List.reduceReplicate, Nat.reduceMul, Int.reduceToNat, Int.toNat_natCast, Nat.reducePow, reduceIte, cond_true', ltT, ltF, leT, leF, eqT, eqF, getD_map, wr64, toNat_succ, toNat_add]; refine hK _ ?_; clear hK K
    refine HW_false rfl ?_
    by_cases hA : n = 9 ∧ 1 < c
    · rw [if_pos hA] at hv
      rw [hv]
      obtain ⟨rfl, h1⟩ := hA
      (repeat first | refine HW_seq ?_ | refine hseqQ_normal ?_ | refine HW_skip ?_ | refine hblkQ_normal ?_ | refine HW_block ?_); refine HW_reg (fun K hK => ?_); simp (maxSteps := 2000000) (disch := omega) only [push_cast, ↓Int.cast_ofNat_Int, Nat.reduceBEq, Nat.reduceAdd, Nat.reduceLT, Nat.reduceEqDiff, reduceIte, reduceCtorEq, Nat.reduceLeDiff, Nat.reduceSub, List.reduceReplicate, Nat.reduceMul, Int.reduceToNat, Int.toNat_natCast, Nat.reducePow, reduceIte, cond_true', ltT, ltF, leT, leF, eqT, eqF, getD_map, wr64, toNat_succ, toNat_add, hc]; (repeat refine ⟨by first | omega | decide | ((repeat' apply And.intro) <;> first | omega | decide), ?_⟩); refine hK _ ?_; clear hK K
      refine HW_true rfl ?_
      (repeat first | refine HW_seq ?_ | refine hseqQ_normal ?_ | refine HW_skip ?_ | refine hblkQ_normal ?_ | refine HW_block ?_); refine HW_reg (fun K hK => ?_); simp (maxSteps := 2000000) (disch := omega) only [push_cast, ↓Int.cast_ofNat_Int, Nat.reduceBEq, Nat.reduceAdd, Nat.reduceLT, Nat.reduceEqDiff, reduceIte, reduceCtorEq, Nat.reduceLeDiff, Nat.reduceSub, List.reduceReplicate, Nat.reduceMul, Int.reduceToNat, Int.toNat_natCast, Nat.reducePow, reduceIte, cond_true', ltT, ltF, leT, leF, eqT, eqF, getD_map, wr64, toNat_succ, toNat_add]; refine hK _ ?_; clear hK K
      (repeat first | refine hseqQ_ret ?_ | refine hseqQ_exit ?_ | refine hblkQ_exit ?_ | refine hblkQ_other rfl ?_ | refine hblkQ_ret ?_ | refine hblkQ_normal ?_ | refine HW_seq ?_ | refine hseqQ_normal ?_ | refine HW_skip ?_ | refine HW_exit ?_ | refine HW_ret ?_)
      simp only [hfunQ_normal, hfunQ_ret, resH_nil, resH_cons, htup_one, htup_two, hlk_nil, hlk_cons, Nat.reduceEqDiff, reduceIte, reduceCtorEq]
      exact hres_vvv rfl
    rw [if_neg hA, if_neg (by omega)] at hv
    by_cases hB : c = 0 ∧ 0 < n
    · rw [if_pos hB] at hv
      rw [hv]
      obtain ⟨rfl, h1⟩ := hB
      rcases (show n = 9 ∨ n ≠ 9 by omega) with rfl | h9
      all_goals
        (repeat first | refine HW_seq ?_ | refine hseqQ_normal ?_ | refine HW_skip ?_ | refine hblkQ_normal ?_ | refine HW_block ?_); refine HW_reg (fun K hK => ?_); simp (maxSteps := 2000000) (disch := omega) only [push_cast, ↓Int.cast_ofNat_Int, Nat.reduceBEq, Nat.reduceAdd, Nat.reduceLT, Nat.reduceEqDiff, reduceIte, reduceCtorEq, Nat.reduceLeDiff, Nat.reduceSub, List.reduceReplicate, Nat.reduceMul, Int.reduceToNat, Int.toNat_natCast, Nat.reducePow, reduceIte, cond_true', ltT, ltF, leT, leF, eqT, eqF, getD_map, wr64, toNat_succ, toNat_add, hc]; (repeat refine ⟨by first | omega | decide | ((repeat' apply And.intro) <;> first | omega | decide), ?_⟩); refine hK _ ?_; clear hK K
        refine HW_true rfl ?_
        (repeat first | refine HW_seq ?_ | refine hseqQ_normal ?_ | refine HW_skip ?_ | refine hblkQ_normal ?_ | refine HW_block ?_); refine HW_reg (fun K hK => ?_); simp (maxSteps := 2000000) (disch := omega) only [push_cast, ↓Int.cast_ofNat_Int, Nat.reduceBEq, Nat.reduceAdd, Nat.reduceLT, Nat.reduceEqDiff, reduceIte, reduceCtorEq, Nat.reduceLeDiff, Nat.reduceSub, List.reduceReplicate, Nat.reduceMul, Int.reduceToNat, Int.toNat_natCast, Nat.reducePow, reduceIte, cond_true', ltT, ltF, leT, leF, eqT, eqF, getD_map, wr64, toNat_succ, toNat_add]; refine hK _ ?_; clear hK K
        (repeat first | refine hseqQ_ret ?_ | refine hseqQ_exit ?_ | refine hblkQ_exit ?_ | refine hblkQ_other rfl ?_ | refine hblkQ_ret ?_ | refine hblkQ_normal ?_ | refine HW_seq ?_ | refine hseqQ_normal ?_ | refine HW_skip ?_ | refine HW_exit ?_ | refine HW_ret ?_)
        simp only [hfunQ_normal, hfunQ_ret, resH_nil, resH_cons, htup_one, htup_two, hlk_nil, hlk_cons, Nat.reduceEqDiff, reduceIte, reduceCtorEq]
        exact hres_vvv rfl
    rw [if_neg hB] at hv
    rw [hv]
    have hT : xval (sb s) (n + 1) = xval (sb s) n + c * 128 ^ n := by rw [xval, hg, Nat.mod_eq_of_lt (by omega)]
    have hT2 : xval (sb s) (n + 1) ≤ 18446744073709551615 := by
      have := (vread_bound s 0 (by omega)).1
      rw [hv] at this
      rw [hT]; exact this
    rw [← hT]
    clear hv hT
    have hc9 : n = 9 → byteAt s 9 = (c : Int) := fun h9 => by rw [← h9]; exact hc
    rcases (show n = 9 ∨ (n ≠ 9 ∧ 0 < n) ∨ n = 0 by omega) with h9 | ⟨h9, h0⟩ | h9
    all_goals
      first
      | (have hc9 := hc9 h9
         have h1 : (n : Int) = 9 := by omega
         have h2 : c ≠ 0 := by omega
         (repeat first | refine HW_seq ?_ | refine hseqQ_normal ?_ | refine HW_skip ?_ | refine hblkQ_normal ?_ | refine HW_block ?_); refine HW_reg (fun K hK => ?_); simp (maxSteps := 2000000) (disch := omega) only [push_cast, ↓Int.cast_ofNat_Int, Nat.reduceBEq, Nat.reduceAdd, Nat.reduceLT, Nat.reduceEqDiff, reduceIte, reduceCtorEq, Nat.reduceLeDiff, Nat.reduceSub, List.reduceReplicate, Nat.reduceMul, Int.reduceToNat, Int.toNat_natCast, Nat.reducePow, reduceIte, cond_true', ltT, ltF, leT, leF, eqT, eqF, getD_map, wr64, toNat_succ, toNat_add, hc, hc9]; (repeat refine ⟨by first | omega | decide | ((repeat' apply And.intro) <;> first | omega | decide), ?_⟩); refine hK _ ?_; clear hK K)
      | ((repeat first | refine HW_seq ?_ | refine hseqQ_normal ?_ | refine HW_skip ?_ | refine hblkQ_normal ?_ | refine HW_block ?_); refine HW_reg (fun K hK => ?_); simp (maxSteps := 2000000) (disch := omega) only [push_cast, ↓Int.cast_ofNat_Int, Nat.reduceBEq, Nat.reduceAdd, Nat.reduceLT, Nat.reduceEqDiff, reduceIte, reduceCtorEq, Nat.reduceLeDiff, Nat.reduceSub, List.reduceReplicate, Nat.reduceMul, Int.reduceToNat, Int.toNat_natCast, Nat.reducePow, reduceIte, cond_true', ltT, ltF, leT, leF, eqT, eqF, getD_map, wr64, toNat_succ, toNat_add, hc]; (repeat refine ⟨by first | omega | decide | ((repeat' apply And.intro) <;> first | omega | decide), ?_⟩); refine hK _ ?_; clear hK K)
      refine HW_false rfl ?_
      refine HW_keep [0, 5] [] (by simp only [keep_eq, hkeep_nil, hkeep_cons, rkeep_nil, rkeep_cons, hlk_nil, hlk_cons, rlk_nil, rlk_cons, Nat.reduceEqDiff, reduceIte]; exact rfl) ?_
      clear hc9 hc hg hd hA hB hx h9
      (repeat first | refine HW_seq ?_ | refine hseqQ_normal ?_ | refine HW_skip ?_ | refine hblkQ_normal ?_ | refine HW_block ?_); refine HW_reg (fun K hK => ?_); simp (maxSteps := 2000000) (disch := omega) only [push_cast, ↓Int.cast_ofNat_Int, Nat.reduceBEq, Nat.reduceAdd, Nat.reduceLT, Nat.reduceEqDiff, reduceIte, reduceCtorEq, Nat.reduceLeDiff, Nat.reduceSub, List.reduceReplicate, Nat.reduceMul, Int.reduceToNat, Int.toNat_natCast, Nat.reducePow, reduceIte, cond_true', ltT, ltF, leT, leF, eqT, eqF, getD_map, wr64, toNat_succ, toNat_add]; refine hK _ ?_; clear hK K
      (repeat first | refine HW_seq ?_ | refine hseqQ_normal ?_ | refine HW_skip ?_ | refine hblkQ_normal ?_ | refine HW_block ?_); refine HW_reg (fun K hK => ?_); simp (maxSteps := 2000000) (disch := omega) only [push_cast, ↓Int.cast_ofNat_Int, Nat.reduceBEq, Nat.reduceAdd, Nat.reduceLT, Nat.reduceEqDiff, reduceIte, reduceCtorEq, Nat.reduceLeDiff, Nat.reduceSub, List.reduceReplicate, Nat.reduceMul, Int.reduceToNat, Int.toNat_natCast, Nat.reducePow, reduceIte, cond_true', ltT, ltF, leT, leF, eqT, eqF, getD_map, wr64, toNat_succ, toNat_add]; refine hK _ ?_; clear hK K
      (repeat first | refine HW_seq ?_ | refine hseqQ_normal ?_ | refine HW_skip ?_ | refine hblkQ_normal ?_ | refine HW_block ?_)
      refine HW_loop (rE2 s n) (fun i => i.j ≤ n + 1 ∧ xval (sb s) (n + 1) = i.x * 128 ^ i.j + xval (sb s) i.j) (fun i => i.j) [0, 5, 6, 7] [] ⟨0, n + 1⟩ (by
        have e : ((n + 1 : Nat) : Int) - 1 = n := by omega
        simp only [keep_eq, hkeep_nil, hkeep_cons, rkeep_nil, rkeep_cons, hlk_nil, hlk_cons, rlk_nil, rlk_cons, Nat.reduceEqDiff, reduceIte, rE2, e]; rfl) ⟨by simp, by simp⟩ ?_
      rintro ⟨x, j⟩ ⟨hj, hi⟩
      dsimp only at hj hi
      cases j with
      | zero =>
        simp only [rE2]
        have hx : x = xval (sb s) (n + 1) := by rw [hi]; simp [xval]
        (repeat first | refine HW_seq ?_ | refine hseqQ_normal ?_ | refine HW_skip ?_ | refine hblkQ_normal ?_ | refine HW_block ?_); refine HW_reg (fun K hK => ?_); simp (maxSteps := 2000000) (disch := omega) only [push_cast, ↓Int.cast_ofNat_Int, Nat.reduceBEq, Nat.reduceAdd, Nat.reduceLT, Nat.reduceEqDiff, reduceIte, reduceCtorEq, Nat.reduceLeDiff, Nat.reduceSub, List.reduceReplicate, Nat.reduceMul, Int.reduceToNat, Int.toNat_natCast, Nat.reducePow, reduceIte, cond_true', ltT, ltF, leT, leF, eqT, eqF, getD_map, wr64, toNat_succ, toNat_add]; refine hK _ ?_; clear hK K
        refine HW_false rfl ?_
        (repeat first | refine hseqQ_ret ?_ | refine hseqQ_exit ?_ | refine hblkQ_exit ?_ | refine hblkQ_other rfl ?_ | refine hblkQ_ret ?_ | refine hblkQ_normal ?_ | refine HW_seq ?_ | refine hseqQ_normal ?_ | refine HW_skip ?_ | refine HW_exit ?_ | refine HW_ret ?_)
        (repeat first | refine HW_seq ?_ | refine hseqQ_normal ?_ | refine HW_skip ?_ | refine hblkQ_normal ?_ | refine HW_block ?_); refine HW_reg (fun K hK => ?_); simp (maxSteps := 2000000) (disch := omega) only [push_cast, ↓Int.cast_ofNat_Int, Nat.reduceBEq, Nat.reduceAdd, Nat.reduceLT, Nat.reduceEqDiff, reduceIte, reduceCtorEq, Nat.reduceLeDiff, Nat.reduceSub, List.reduceReplicate, Nat.reduceMul, Int.reduceToNat, Int.toNat_natCast, Nat.reducePow, reduceIte, cond_true', ltT, ltF, leT, leF, eqT, eqF, getD_map, wr64, toNat_succ, toNat_add]; refine hK _ ?_; clear hK K
        (repeat first | refine hseqQ_ret ?_ | refine hseqQ_exit ?_ | refine hblkQ_exit ?_ | refine hblkQ_other rfl ?_ | refine hblkQ_ret ?_ | refine hblkQ_normal ?_ | refine HW_seq ?_ | refine hseqQ_normal ?_ | refine HW_skip ?_ | refine HW_exit ?_ | refine HW_ret ?_)
        simp only [hfunQ_normal, hfunQ_ret, resH_nil, resH_cons, htup_one, htup_two, hlk_nil, hlk_cons, Nat.reduceEqDiff, reduceIte, reduceCtorEq]
        exact hres_vvv (by rw [hx]; rfl)
      | succ j =>
        have e : ((j + 1 : Nat) : Int) - 1 = j := by omega
        simp only [rE2, e]
        obtain ⟨d, hd, hd2, hg, -⟩ := byte_get s (show j < s.size by omega)
        obtain ⟨m, hm⟩ : ∃ m, m = d % 128 := ⟨_, rfl⟩
        have e1 : (d : Int).tmod 128 = (m : Int) := by rw [tmod_nat, hm]
        have hi2 : xval (sb s) (n + 1) = (x * 128 + m) * 128 ^ j + xval (sb s) j := by
          rw [hi, xval, hg, ← hm, Nat.pow_succ, Nat.add_mul, Nat.mul_assoc, Nat.mul_comm (128 ^ j) 128]
          omega
        have hb : x * 128 + m ≤ 18446744073709551615 := by
          have : (x * 128 + m) * 1 ≤ (x * 128 + m) * 128 ^ j := Nat.mul_le_mul_left _ (Nat.pow_pos (by omega))
          omega
        (repeat first | refine HW_seq ?_ | refine hseqQ_normal ?_ | refine HW_skip ?_ | refine hblkQ_normal ?_ | refine HW_block ?_); refine HW_reg (fun K hK => ?_); simp (maxSteps := 2000000) (disch := omega) only [push_cast, ↓Int.cast_ofNat_Int, Nat.reduceBEq, Nat.reduceAdd, Nat.reduceLT, Nat.reduceEqDiff, reduceIte, reduceCtorEq, Nat.reduceLeDiff, Nat.reduceSub, List.reduceReplicate, Nat.reduceMul, Int.reduceToNat, Int.toNat_natCast, Nat.reducePow, reduceIte, cond_true', ltT, ltF, leT, leF, eqT, eqF, getD_map, wr64, toNat_succ, toNat_add]; refine hK _ ?_; clear hK K
        refine HW_true rfl ?_
        (repeat first | refine hseqQ_ret ?_ | refine hseqQ_exit ?_ | refine hblkQ_exit ?_ | refine hblkQ_other rfl ?_ | refine hblkQ_ret ?_ | refine hblkQ_normal ?_ | refine HW_seq ?_ | refine hseqQ_normal ?_ | refine HW_skip ?_ | refine HW_exit ?_ | refine HW_ret ?_)
        (repeat first | refine HW_seq ?_ | refine hseqQ_normal ?_ | refine HW_skip ?_ | refine hblkQ_normal ?_ | refine HW_block ?_); refine HW_reg (fun K hK => ?_); simp (maxSteps := 2000000) (disch := omega) only [push_cast, ↓Int.cast_ofNat_Int, Nat.reduceBEq, Nat.reduceAdd, Nat.reduceLT, Nat.reduceEqDiff, reduceIte, reduceCtorEq, Nat.reduceLeDiff, Nat.reduceSub, List.reduceReplicate, Nat.reduceMul, Int.reduceToNat, Int.toNat_natCast, Nat.reducePow, reduceIte, cond_true', ltT, ltF, leT, leF, eqT, eqF, getD_map, wr64, toNat_succ, toNat_add, hd, e1, wru64]; (repeat refine ⟨by first | omega | decide | ((repeat' apply And.intro) <;> first | omega | decide), ?_⟩); refine hK _ ?_; clear hK K
        (repeat first | refine hseqQ_ret ?_ | refine hseqQ_exit ?_ | refine hblkQ_exit ?_ | refine hblkQ_other rfl ?_ | refine hblkQ_ret ?_ | refine hblkQ_normal ?_ | refine HW_seq ?_ | refine hseqQ_normal ?_ | refine HW_skip ?_ | refine HW_exit ?_ | refine HW_ret ?_)
        (repeat first | refine HW_seq ?_ | refine hseqQ_normal ?_ | refine HW_skip ?_ | refine hblkQ_normal ?_ | refine HW_block ?_); refine HW_reg (fun K hK => ?_); simp (maxSteps := 2000000) (disch := omega) only [push_cast, ↓Int.cast_ofNat_Int, Nat.reduceBEq, Nat.reduceAdd, Nat.reduceLT, Nat.reduceEqDiff, reduceIte, reduceCtorEq, Nat.reduceLeDiff, Nat.reduceSub, List.reduceReplicate, Nat.reduceMul, Int.reduceToNat, Int.toNat_natCast, Nat.reducePow, reduceIte, cond_true', ltT, ltF, leT, leF, eqT, eqF, getD_map, wr64, toNat_succ, toNat_add]; refine hK _ ?_; clear hK K
        (repeat first | refine hseqQ_ret ?_ | refine hseqQ_exit ?_ | refine hblkQ_exit ?_ | refine hblkQ_other rfl ?_ | refine hblkQ_ret ?_ | refine hblkQ_normal ?_ | refine HW_seq ?_ | refine hseqQ_normal ?_ | refine HW_skip ?_ | refine HW_exit ?_ | refine HW_ret ?_)
        refine ⟨⟨x * 128 + m, j⟩, ?_, ⟨?_, ?_⟩, ?_⟩
        · have e2 : (128 : Int) * x + m = ((x * 128 + m : Nat) : Int) := by omega
          simp only [keep_eq, hkeep_nil, hkeep_cons, rkeep_nil, rkeep_cons, hlk_nil, hlk_cons, rlk_nil, rlk_cons, Nat.reduceEqDiff, reduceIte, rE2, e2]; try rfl
        · show j ≤ n + 1; omega
        · exact hi2
        · show j < j + 1; omega
  · have e : n = s.size := by omega
    rw [e, List.drop_of_length_le (by rw [sb_len]; exact Nat.le_refl _), vrd] at hv
    rw [hv]
    (repeat first | refine HW_seq ?_ | refine hseqQ_normal ?_ | refine HW_skip ?_ | refine hblkQ_normal ?_ | refine HW_block ?_); refine HW_reg (fun K hK => ?_); simp (maxSteps := 2000000) (disch := omega) only [push_cast, ↓Int.cast_ofNat_Int, Nat.reduceBEq, Nat.reduceAdd, Nat.reduceLT, Nat.reduceEqDiff, reduceIte, reduceCtorEq, Nat.reduceLeDiff, Nat.reduceSub, List.reduceReplicate, Nat.reduceMul, Int.reduceToNat, Int.toNat_natCast, Nat.reducePow, reduceIte, cond_true', ltT, ltF, leT, leF, eqT, eqF, getD_map, wr64, toNat_succ, toNat_add]; refine hK _ ?_; clear hK K
    refine HW_true rfl ?_
    (repeat first | refine HW_seq ?_ | refine hseqQ_normal ?_ | refine HW_skip ?_ | refine hblkQ_normal ?_ | refine HW_block ?_); refine HW_reg (fun K hK => ?_); simp (maxSteps := 2000000) (disch := omega) only [push_cast, ↓Int.cast_ofNat_Int, Nat.reduceBEq, Nat.reduceAdd, Nat.reduceLT, Nat.reduceEqDiff, reduceIte, reduceCtorEq, Nat.reduceLeDiff, Nat.reduceSub, List.reduceReplicate, Nat.reduceMul, Int.reduceToNat, Int.toNat_natCast, Nat.reducePow, reduceIte, cond_true', ltT, ltF, leT, leF, eqT, eqF, getD_map, wr64, toNat_succ, toNat_add]; refine hK _ ?_; clear hK K
    (repeat first | refine hseqQ_ret ?_ | refine hseqQ_exit ?_ | refine hblkQ_exit ?_ | refine hblkQ_other rfl ?_ | refine hblkQ_ret ?_ | refine hblkQ_normal ?_ | refine HW_seq ?_ | refine hseqQ_normal ?_ | refine HW_skip ?_ | refine HW_exit ?_ | refine HW_ret ?_)
    simp only [hfunQ_normal, hfunQ_ret, resH_nil, resH_cons, htup_one, htup_two, hlk_nil, hlk_cons, Nat.reduceEqDiff, reduceIte, reduceCtorEq]
    exact hres_vvv rfl
end Go.Proofs.Ytppnicpbncfhnaa
