/-
  The walks of diff.Distance and of the law's awake, over values; the law DiffSame.
-/
import Derived.Test.YtlfenddhppoflaaSames
import Derived.Test.YtlfenddhppoflaaDist
import Derived.Test.YtlfenddhppoflaaDiffE
set_option linter.unusedSimpArgs false
set_option linter.unusedVariables false
set_option maxRecDepth 20000
namespace Go.Proofs.Ytlfenddhppoflaa
open Go Go.Eng Go.RowKit Go.DiffM
attribute [local push_cast] ev_tmp ev_const ev_global ev_func evs_nil evs_cons stp_some stp_none dsts_nil dsts_cons argsE_nil argsE_cons intBin_add intBin_sub intBin_mul intBin_quo intBin_rem intBin_and intBin_or intBin_xor intBin_andNot intBin_eql intBin_neq intBin_lss intBin_leq intBin_gtr intBin_geq intBin_shl intBin_shr strBin_add strBin_eql strBin_neq strBin_lss strBin_leq strBin_gtr strBin_geq pureBin_int pureBin_str pureBin_beq pureBin_bne pureBin_peq pureBin_pne pureBin_seq pureBin_sne pureBin_agg effEq_eql effEq_neq pureUn_not pureUn_neg pureUn_xor pureConv_int pureConv_str pureField_eq pureIndexAddr_s pureIndexAddr_p pureIndex_s oInt_none oInt_some pureSlice_str pureSlice_sl pureB_len pureB_lens pureB_cap pureB_max pureB_min pureB_app pureB_copy po_move po_assign po_pick po_bin po_un po_conv po_field po_extract po_faddr po_iaddr po_index po_slice po_nil po_builtin po_call po_load po_store po_alloc po_box po_build po_buildS po_makeS eo_load eo_store eo_build eo_buildS eo_makeS eo_app eo_call eo_bin eq_load eq_build eq_call eq_bin parts_nil parts_cons outG_none outG_some dstOk_none dstOk_some out_eq outR_eq outOp_eq outQ_eq imm_load immQ_load imm_alloc imm_box imm_store imm_build imm_call imm_bin immQ_build immQ_call immQ_bin imm_buildS imm_makeS v2_nil v2_cons vq_nil vq_cons undef_eq
attribute [local push_cast] List.take_succ_cons List.take_zero List.drop_succ_cons List.drop_zero true_and and_true Option.isSome_some List.getElem?_cons_zero List.getElem?_cons_succ List.length_cons List.length_nil cond_true cond_false Int.toNat_natCast Nat.mul_one Nat.add_zero Nat.zero_add Addr.add_lit bne_self_eq_false beq_self_eq_true Bool.not_true Bool.not_false List.size_toArray Array.getD_eq_getD_getElem? List.getElem?_toArray Option.getD_some decide_true decide_false eq_self Bool.true_beq Bool.false_beq List.getD_cons_zero List.getD_cons_succ List.map_cons List.map_nil List.set_cons_zero List.set_cons_succ List.replicate_zero List.toList_toArray List.all_toArray List.all_cons List.all_nil Bool.and_self Bool.and_true Bool.true_and Bool.and_false Bool.false_and List.length_map List.length_append List.length_replicate List.length_set List.cons_append List.nil_append cond_triv Option.isSome_some beq_true beq_false Bool.not_false Option.map_some Bool.false_xor Bool.true_xor and_self beq_self_eq_true fv_default List.flatMap_cons List.flatMap_nil List.append_nil
attribute [local push_cast] lk_lo hlk_nil hlk_cons rlk_nil rlk_cons hev_tmp hev_const hev_global hev_func hevs_nil hevs_cons leaf_v leaf_none leaf_lst leaf_own leaf_ptr leaf_elt leaf_agg leaf_tup leaf_vw leaf_junk hPure_some hPure_none hop_eq heff_move heff_assign heff_pick heff_extract heff_field heff_faddr heff_nilc heff_iaddr heff_slice heff_load heff_store heff_alloc heff_box heff_build heff_buildS heff_makeS heff_len heff_app heff_callf heff_eql heff_neq hMove_eq hPick_eq hExtract_eq hField_one hField_sub hFAddr_ptr hFAddr_elt hNil_ptr hNil_elt hIAddr_own hIAddr_lst hIAddr_ptr hIAddr_elt hIAddrR_eq hIAddrL_eq hIAddrP_eq hIAddrE_eq hLen_vw hSlice_own hSlice_vw hSliceR_eq hSliceV_eq rlen_sl hIAddr_vw hIAddrV_eq newsOf_vw hcells_vw hone_vw hkill_vw hren_vw hsub_vw ownIds_vw ownCell_vw hLen_own hLen_lst hLenR_eq hSlice_eq hSliceL_eq hLoad_ptr hLoad_elt hLoadR_sl hLoadR_sla hLoadR_bx hLoadR_bxa hLoadE_one hLoadE_agg hStore_eq hStoreR_sl hStoreR_bx hStoreS_one hStoreS_agg hStoreB_one hStoreB_agg hAlloc_eq hBox_eq hBoxC_eq partsH_nil partsH_cons hfill_nil hfill_cons hBuild_eq hBuildF_eq hlit_nil hlit_cons hBuildS_eq hBuildSF_eq hMake_eq newsOf_own newsOf_lst newsOf_nil hAppend_own hAppend_nil hAppR_eq hAppN_eq leafs_nil leafs_cons hEq_eq hEqL_eq hCall_eq ats0_eq oneAll_eq hf_v hf_lst hfs_nil hfs_cons fone_v fone_lst hone_v hone_lst hone_own hone_ptr fh_v fh_lst one_int hcellv_int one_bool hcellv_bool one_str hcellv_str one_slice hcellv_slice one_ptr hcellv_ptr hcells_agg hcells_lst hcells_own hcells_ptr splice_eq kill_eq row_eq set_some set_none rep_eq hrep_nil hrep_cons ekill_nil ekill_cons skill_nil skill_cons rkill_sl rkill_bx hkill_v hren_v hsub_v hkill_lst hren_lst hsub_lst hkill_elt hren_elt hsub_elt hkill_junk hren_junk hsub_junk hkill_own hkill_ptr hkill_agg hkill_tup hren_own hren_ptr hren_agg hren_tup hsub_own hsub_ptr hsub_agg hsub_tup rren_sl rren_bx rsub_sl rsub_bx only_eq eight_eq sh_eq adds_eq radds_nil radds_cons rest_eq esub_nil esub_cons ssub_nil ssub_cons sset_nil sset_cons hG_none hG_some hGv_bool hGv_tup hgo_go hgo_call hgo_eqn hgo_eq hgo1_eq hpre_move hpre_assign hpre_pick hpre_extract hpre_field hpre_faddr hpre_nilc hpre_iaddr hpre_slice hpre_load hpre_build hpre_bin hpre_un hpre_conv hpre_index hpre_call hpre_alloc hpre_box hpre_make hpre_store hpre_buildS ownsS_eq ownsR_sl ownsR_bx ownsP_eq ownIds_own ownIds_v ownIds_lst ownIds_agg ownCell_own ownCell_v ownCell_lst restAll_nil restAll_cons restOne_eq hskip_eq hstep_yes hstep_no hstep_ask hv2_nil hv2_cons hgoq_go hgoq_call hgoq_eqn hgoq_eq hstepq_yes hstepq_no hstepq_ask hvq_nil hvq_cons idOf_some idOf_none quiet_move quiet_assign quiet_pick quiet_extract quiet_field quiet_faddr quiet_nilc quiet_iaddr quiet_slice quiet_load quiet_build quiet_bin quiet_un quiet_conv quiet_index quiet_len argsH_nil argsH_cons
attribute [local push_cast] bb4 bd29 fo29_0 fo29_1 kt29 kt3 pt29_0 pt29_1 se22 se23 us22 us23 zt29
set_option maxHeartbeats 1000000 in
theorem dist_H (a b : List ByteArray) : HFun Try.prog 22 [.lst false (strs a), .lst false (strs b)] (fun h st =>
    (400 < a.length ∨ 400 < b.length) ∧ h = .tup [.v (.int .i64 0), .v (.int .i64 4)] ∧ st = [] ∨
    a.length ≤ 400 ∧ b.length ≤ 400 ∧ h = .tup [.v (.int .i64 (dist (script a b) : Nat)), .v (.int .i64 0)] ∧ st = []) := by
  refine hfun (N := 35) Try.func22 rfl Try.ntmps22 Try.results22 (by simp) ?_
  (repeat first | refine HW_seq ?_ | refine hseqQ_normal ?_ | refine HW_skip ?_ | refine hblkQ_normal ?_ | refine HW_block ?_); refine HW_reg (fun K hK => ?_); simp (maxSteps := 2000000) (disch := omega) only [push_cast, Nat.reduceBEq, Nat.reduceAdd, Nat.reduceLT, Nat.reduceEqDiff, reduceIte, reduceCtorEq, Nat.reduceLeDiff, Nat.reduceSub, List.reduceReplicate, Nat.reduceMul, Int.reduceToNat, Int.toNat_natCast, Nat.reducePow, reduceIte, cond_true', ltT, ltF, leT, leF, eqT, eqF, getD_map, wr64, toNat_succ, toNat_add]; refine hK _ ?_; clear hK K
  (repeat first | refine HW_seq ?_ | refine hseqQ_normal ?_ | refine HW_skip ?_ | refine hblkQ_normal ?_ | refine HW_block ?_); refine HW_reg (fun K hK => ?_); simp (maxSteps := 2000000) (disch := omega) only [push_cast, Nat.reduceBEq, Nat.reduceAdd, Nat.reduceLT, Nat.reduceEqDiff, reduceIte, reduceCtorEq, Nat.reduceLeDiff, Nat.reduceSub, List.reduceReplicate, Nat.reduceMul, Int.reduceToNat, Int.toNat_natCast, Nat.reducePow, reduceIte, cond_true', ltT, ltF, leT, leF, eqT, eqF, getD_map, wr64, toNat_succ, toNat_add]
  refine hat 112 cl20 (script_H a b) (.cons (lendL (strs_old _)) (.cons (lendL (strs_old _)) .nil)) ?_
  rintro _ _ (⟨hlim, rfl, rfl⟩ | ⟨h1, h2, rfl, rfl⟩)
  · refine hstop ?_; simp (maxSteps := 2000000) (disch := omega) only [push_cast, Nat.reduceBEq, Nat.reduceAdd, Nat.reduceLT, Nat.reduceEqDiff, reduceIte, reduceCtorEq, Nat.reduceLeDiff, Nat.reduceSub, List.reduceReplicate, Nat.reduceMul, Int.reduceToNat, Int.toNat_natCast, Nat.reducePow, reduceIte, cond_true', ltT, ltF, leT, leF, eqT, eqF, getD_map, wr64, toNat_succ, toNat_add]
    refine hK _ ?_; clear hK K
    (repeat first | refine HW_seq ?_ | refine hseqQ_normal ?_ | refine HW_skip ?_ | refine hblkQ_normal ?_ | refine HW_block ?_); refine HW_reg (fun K hK => ?_); simp (maxSteps := 2000000) (disch := omega) only [push_cast, Nat.reduceBEq, Nat.reduceAdd, Nat.reduceLT, Nat.reduceEqDiff, reduceIte, reduceCtorEq, Nat.reduceLeDiff, Nat.reduceSub, List.reduceReplicate, Nat.reduceMul, Int.reduceToNat, Int.toNat_natCast, Nat.reducePow, reduceIte, cond_true', ltT, ltF, leT, leF, eqT, eqF, getD_map, wr64, toNat_succ, toNat_add]; refine hK _ ?_; clear hK K
    (repeat first | refine HW_seq ?_ | refine hseqQ_normal ?_ | refine HW_skip ?_ | refine hblkQ_normal ?_ | refine HW_block ?_)
    refine HW_true rfl ?_
    (repeat first | refine HW_seq ?_ | refine hseqQ_normal ?_ | refine HW_skip ?_ | refine hblkQ_normal ?_ | refine HW_block ?_); refine HW_reg (fun K hK => ?_); simp (maxSteps := 2000000) (disch := omega) only [push_cast, Nat.reduceBEq, Nat.reduceAdd, Nat.reduceLT, Nat.reduceEqDiff, reduceIte, reduceCtorEq, Nat.reduceLeDiff, Nat.reduceSub, List.reduceReplicate, Nat.reduceMul, Int.reduceToNat, Int.toNat_natCast, Nat.reducePow, reduceIte, cond_true', ltT, ltF, leT, leF, eqT, eqF, getD_map, wr64, toNat_succ, toNat_add]; refine hK _ ?_; clear hK K
    (repeat first | refine hseqQ_ret ?_ | refine hseqQ_exit ?_ | refine hblkQ_exit ?_ | refine hblkQ_other rfl ?_ | refine hblkQ_ret ?_ | refine hblkQ_normal ?_ | refine HW_seq ?_ | refine hseqQ_normal ?_ | refine HW_skip ?_ | refine HW_exit ?_ | refine HW_ret ?_)
    simp only [hfunQ_normal, hfunQ_ret, resH_nil, resH_cons, htup_one, htup_two, hlk_nil, hlk_cons, Nat.reduceEqDiff, reduceIte, reduceCtorEq]
    exact hres_vv (.inl ⟨hlim, rfl, rfl⟩)
  · refine hstop ?_; simp (maxSteps := 2000000) (disch := omega) only [push_cast, Nat.reduceBEq, Nat.reduceAdd, Nat.reduceLT, Nat.reduceEqDiff, reduceIte, reduceCtorEq, Nat.reduceLeDiff, Nat.reduceSub, List.reduceReplicate, Nat.reduceMul, Int.reduceToNat, Int.toNat_natCast, Nat.reducePow, reduceIte, cond_true', ltT, ltF, leT, leF, eqT, eqF, getD_map, wr64, toNat_succ, toNat_add]
    refine hK _ ?_; clear hK K
    (repeat first | refine HW_seq ?_ | refine hseqQ_normal ?_ | refine HW_skip ?_ | refine hblkQ_normal ?_ | refine HW_block ?_); refine HW_reg (fun K hK => ?_); simp (maxSteps := 2000000) (disch := omega) only [push_cast, Nat.reduceBEq, Nat.reduceAdd, Nat.reduceLT, Nat.reduceEqDiff, reduceIte, reduceCtorEq, Nat.reduceLeDiff, Nat.reduceSub, List.reduceReplicate, Nat.reduceMul, Int.reduceToNat, Int.toNat_natCast, Nat.reducePow, reduceIte, cond_true', ltT, ltF, leT, leF, eqT, eqF, getD_map, wr64, toNat_succ, toNat_add]; refine hK _ ?_; clear hK K
    (repeat first | refine HW_seq ?_ | refine hseqQ_normal ?_ | refine HW_skip ?_ | refine hblkQ_normal ?_ | refine HW_block ?_)
    refine HW_false rfl ?_
    (repeat first | refine HW_seq ?_ | refine hseqQ_normal ?_ | refine HW_skip ?_ | refine hblkQ_normal ?_ | refine HW_block ?_); refine HW_reg (fun K hK => ?_); simp (maxSteps := 2000000) (disch := omega) only [push_cast, Nat.reduceBEq, Nat.reduceAdd, Nat.reduceLT, Nat.reduceEqDiff, reduceIte, reduceCtorEq, Nat.reduceLeDiff, Nat.reduceSub, List.reduceReplicate, Nat.reduceMul, Int.reduceToNat, Int.toNat_natCast, Nat.reducePow, reduceIte, cond_true', ltT, ltF, leT, leF, eqT, eqF, getD_map, wr64, toNat_succ, toNat_add]; refine hK _ ?_; clear hK K
    (repeat first | refine HW_seq ?_ | refine hseqQ_normal ?_ | refine HW_skip ?_ | refine hblkQ_normal ?_ | refine HW_block ?_); refine HW_reg (fun K hK => ?_); simp (maxSteps := 2000000) (disch := omega) only [push_cast, Nat.reduceBEq, Nat.reduceAdd, Nat.reduceLT, Nat.reduceEqDiff, reduceIte, reduceCtorEq, Nat.reduceLeDiff, Nat.reduceSub, List.reduceReplicate, Nat.reduceMul, Int.reduceToNat, Int.toNat_natCast, Nat.reducePow, reduceIte, cond_true', ltT, ltF, leT, leF, eqT, eqF, getD_map, wr64, toNat_succ, toNat_add, edits_len]; refine hK _ ?_; clear hK K
    obtain ⟨hlen, hcnt⟩ := script_len a b
    have hd : dist (script a b) = 0 + dist ((script a b).drop 0) := by simp
    generalize script a b = l at *
    have hcnt : ∀ k (hk : k < l.length), l[k].2 ≤ 800 := fun k hk => by have := hcnt k hk; omega
    have hlen : l.length ≤ 800 := by omega
    generalize dist l = D at *
    (repeat first | refine HW_seq ?_ | refine hseqQ_normal ?_ | refine HW_skip ?_ | refine hblkQ_normal ?_ | refine HW_block ?_)
    refine HW_loop (fun x : Nat × Nat => ⟨[(8, .v (.int .i64 x.2)), (20, .own 112), (21, .v (.int .i64 l.length)), (22, .v (.int .i64 x.1))], [(112, rowE l)]⟩)
      (fun x => x.1 ≤ l.length ∧ x.2 ≤ x.1 * 800 ∧ D = x.2 + dist (l.drop x.1)) (fun x => l.length - x.1) [8, 20, 21, 22] [112] (0, 0) rfl
      ⟨Nat.zero_le _, Nat.zero_le _, hd⟩ ?_
    rintro ⟨n, i⟩ ⟨hn, hi, hP⟩
    simp only at hn hi hP
    (repeat first | refine HW_seq ?_ | refine hseqQ_normal ?_ | refine HW_skip ?_ | refine hblkQ_normal ?_ | refine HW_block ?_); refine HW_reg (fun K hK => ?_); simp (maxSteps := 2000000) (disch := omega) only [push_cast, Nat.reduceBEq, Nat.reduceAdd, Nat.reduceLT, Nat.reduceEqDiff, reduceIte, reduceCtorEq, Nat.reduceLeDiff, Nat.reduceSub, List.reduceReplicate, Nat.reduceMul, Int.reduceToNat, Int.toNat_natCast, Nat.reducePow, reduceIte, cond_true', ltT, ltF, leT, leF, eqT, eqF, getD_map, wr64, toNat_succ, toNat_add]; refine hK _ ?_; clear hK K
    (repeat first | refine HW_seq ?_ | refine hseqQ_normal ?_ | refine HW_skip ?_ | refine hblkQ_normal ?_ | refine HW_block ?_)
    refine HW_cond rfl (fun hlt => ?_) (fun hge => ?_)
    · have hnl : n < l.length := by simpa using hlt
      have hc := hcnt n hnl
      rw [List.drop_eq_getElem_cons hnl] at hP
      obtain ⟨op, c, hx⟩ : ∃ op c, l[n] = (op, c) := ⟨l[n].1, l[n].2, rfl⟩
      rw [hx] at hP hc
      simp only at hc
      (repeat first | refine HW_seq ?_ | refine hseqQ_normal ?_ | refine HW_skip ?_ | refine hblkQ_normal ?_ | refine HW_block ?_); refine HW_reg (fun K hK => ?_); simp (maxSteps := 2000000) (disch := omega) only [push_cast, Nat.reduceBEq, Nat.reduceAdd, Nat.reduceLT, Nat.reduceEqDiff, reduceIte, reduceCtorEq, Nat.reduceLeDiff, Nat.reduceSub, List.reduceReplicate, Nat.reduceMul, Int.reduceToNat, Int.toNat_natCast, Nat.reducePow, reduceIte, cond_true', ltT, ltF, leT, leF, eqT, eqF, getD_map, wr64, toNat_succ, toNat_add, edits_len, edits_get, hx]; refine hK _ ?_; clear hK K
      by_cases o0 : op = 0
      · subst o0
        (repeat first | refine HW_seq ?_ | refine hseqQ_normal ?_ | refine HW_skip ?_ | refine hblkQ_normal ?_ | refine HW_block ?_); refine HW_reg (fun K hK => ?_); simp (maxSteps := 2000000) (disch := omega) only [push_cast, Nat.reduceBEq, Nat.reduceAdd, Nat.reduceLT, Nat.reduceEqDiff, reduceIte, reduceCtorEq, Nat.reduceLeDiff, Nat.reduceSub, List.reduceReplicate, Nat.reduceMul, Int.reduceToNat, Int.toNat_natCast, Nat.reducePow, reduceIte, cond_true', ltT, ltF, leT, leF, eqT, eqF, getD_map, wr64, toNat_succ, toNat_add]; refine hK _ ?_; clear hK K
        (repeat first | refine HW_seq ?_ | refine hseqQ_normal ?_ | refine HW_skip ?_ | refine hblkQ_normal ?_ | refine HW_block ?_)
        refine HW_false rfl ?_
        (repeat first | refine hseqQ_ret ?_ | refine hseqQ_exit ?_ | refine hblkQ_exit ?_ | refine hblkQ_other rfl ?_ | refine hblkQ_ret ?_ | refine hblkQ_normal ?_ | refine HW_seq ?_ | refine hseqQ_normal ?_ | refine HW_skip ?_ | refine HW_exit ?_ | refine HW_ret ?_)
        (repeat first | refine HW_seq ?_ | refine hseqQ_normal ?_ | refine HW_skip ?_ | refine hblkQ_normal ?_ | refine HW_block ?_); refine HW_reg (fun K hK => ?_); simp (maxSteps := 2000000) (disch := omega) only [push_cast, Nat.reduceBEq, Nat.reduceAdd, Nat.reduceLT, Nat.reduceEqDiff, reduceIte, reduceCtorEq, Nat.reduceLeDiff, Nat.reduceSub, List.reduceReplicate, Nat.reduceMul, Int.reduceToNat, Int.toNat_natCast, Nat.reducePow, reduceIte, cond_true', ltT, ltF, leT, leF, eqT, eqF, getD_map, wr64, toNat_succ, toNat_add]; refine hK _ ?_; clear hK K
        exact hseqQ_normal ⟨(n + 1, i), rfl, ⟨hnl, by show i ≤ (n + 1) * 800; omega, by rw [hP, dist, if_pos rfl, Nat.zero_add]⟩, by show l.length - (n + 1) < l.length - n; omega⟩
      · (repeat first | refine HW_seq ?_ | refine hseqQ_normal ?_ | refine HW_skip ?_ | refine hblkQ_normal ?_ | refine HW_block ?_); refine HW_reg (fun K hK => ?_); simp (maxSteps := 2000000) (disch := omega) only [push_cast, Nat.reduceBEq, Nat.reduceAdd, Nat.reduceLT, Nat.reduceEqDiff, reduceIte, reduceCtorEq, Nat.reduceLeDiff, Nat.reduceSub, List.reduceReplicate, Nat.reduceMul, Int.reduceToNat, Int.toNat_natCast, Nat.reducePow, reduceIte, cond_true', ltT, ltF, leT, leF, eqT, eqF, getD_map, wr64, toNat_succ, toNat_add]; refine hK _ ?_; clear hK K
        (repeat first | refine HW_seq ?_ | refine hseqQ_normal ?_ | refine HW_skip ?_ | refine hblkQ_normal ?_ | refine HW_block ?_)
        refine HW_true rfl ?_
        (repeat first | refine HW_seq ?_ | refine hseqQ_normal ?_ | refine HW_skip ?_ | refine hblkQ_normal ?_ | refine HW_block ?_); refine HW_reg (fun K hK => ?_); simp (maxSteps := 2000000) (disch := omega) only [push_cast, Nat.reduceBEq, Nat.reduceAdd, Nat.reduceLT, Nat.reduceEqDiff, reduceIte, reduceCtorEq, Nat.reduceLeDiff, Nat.reduceSub, List.reduceReplicate, Nat.reduceMul, Int.reduceToNat, Int.toNat_natCast, Nat.reducePow, reduceIte, cond_true', ltT, ltF, leT, leF, eqT, eqF, getD_map, wr64, toNat_succ, toNat_add]; refine hK _ ?_; clear hK K
        (repeat first | refine hseqQ_ret ?_ | refine hseqQ_exit ?_ | refine hblkQ_exit ?_ | refine hblkQ_other rfl ?_ | refine hblkQ_ret ?_ | refine hblkQ_normal ?_ | refine HW_seq ?_ | refine hseqQ_normal ?_ | refine HW_skip ?_ | refine HW_exit ?_ | refine HW_ret ?_)
        (repeat first | refine HW_seq ?_ | refine hseqQ_normal ?_ | refine HW_skip ?_ | refine hblkQ_normal ?_ | refine HW_block ?_); refine HW_reg (fun K hK => ?_); simp (maxSteps := 2000000) (disch := omega) only [push_cast, Nat.reduceBEq, Nat.reduceAdd, Nat.reduceLT, Nat.reduceEqDiff, reduceIte, reduceCtorEq, Nat.reduceLeDiff, Nat.reduceSub, List.reduceReplicate, Nat.reduceMul, Int.reduceToNat, Int.toNat_natCast, Nat.reducePow, reduceIte, cond_true', ltT, ltF, leT, leF, eqT, eqF, getD_map, wr64, toNat_succ, toNat_add]; refine hK _ ?_; clear hK K
        exact hseqQ_normal ⟨(n + 1, i + c), rfl, ⟨hnl, by show i + c ≤ (n + 1) * 800; omega, by rw [hP, dist, if_neg o0, Nat.add_assoc]⟩, by show l.length - (n + 1) < l.length - n; omega⟩
    · have hge' : n = l.length := by have : l.length ≤ n := by simpa using hge
                                     omega
      subst hge'
      (repeat first | refine hseqQ_ret ?_ | refine hseqQ_exit ?_ | refine hblkQ_exit ?_ | refine hblkQ_other rfl ?_ | refine hblkQ_ret ?_ | refine hblkQ_normal ?_ | refine HW_seq ?_ | refine hseqQ_normal ?_ | refine HW_skip ?_ | refine HW_exit ?_ | refine HW_ret ?_)
      (repeat first | refine HW_seq ?_ | refine hseqQ_normal ?_ | refine HW_skip ?_ | refine hblkQ_normal ?_ | refine HW_block ?_); refine HW_reg (fun K hK => ?_); simp (maxSteps := 2000000) (disch := omega) only [push_cast, Nat.reduceBEq, Nat.reduceAdd, Nat.reduceLT, Nat.reduceEqDiff, reduceIte, reduceCtorEq, Nat.reduceLeDiff, Nat.reduceSub, List.reduceReplicate, Nat.reduceMul, Int.reduceToNat, Int.toNat_natCast, Nat.reducePow, reduceIte, cond_true', ltT, ltF, leT, leF, eqT, eqF, getD_map, wr64, toNat_succ, toNat_add]; refine hK _ ?_; clear hK K
      (repeat first | refine hseqQ_ret ?_ | refine hseqQ_exit ?_ | refine hblkQ_exit ?_ | refine hblkQ_other rfl ?_ | refine hblkQ_ret ?_ | refine hblkQ_normal ?_ | refine HW_seq ?_ | refine hseqQ_normal ?_ | refine HW_skip ?_ | refine HW_exit ?_ | refine HW_ret ?_)
      simp only [hfunQ_normal, hfunQ_ret, resH_nil, resH_cons, htup_one, htup_two, hlk_nil, hlk_cons, Nat.reduceEqDiff, reduceIte, reduceCtorEq]
      rw [List.drop_eq_nil_of_le (Nat.le_refl _)] at hP
      simp only [dist, Nat.add_zero] at hP
      subst hP
      exact hres_vv (.inr ⟨h1, h2, rfl, rfl⟩)
theorem awake_H : HFun Try.prog 21 [] (fun h st => h = .v (.bool true)) := (hfun_low fun w vs R => by
  obtain rfl : vs = [] := List.eq_nil_of_length_eq_zero R.1
  exact awake_calls w).mono fun h st q => q.1
theorem decide_iff' {p q : Prop} [Decidable p] [Decidable q] (h : p ↔ q) : decide p = decide q := by simp [h]
set_option maxHeartbeats 1000000 in
theorem diffSame_H (a b c : List ByteArray) (hA : a.length * 16 ≤ 140737488355328) (hB : b.length * 16 ≤ 140737488355328) (hC : c.length * 16 ≤ 140737488355328) :
    HFun Try.prog 4 [.lst false (strs a), .lst false (strs b), .lst false (strs c)] (fun h st => h = .v (.bool true)) := by
  refine hfun (N := 110) Try.func4 rfl Try.ntmps4 Try.results4 (by simp) ?_
  (repeat first | refine HW_seq ?_ | refine hseqQ_normal ?_ | refine HW_skip ?_ | refine hblkQ_normal ?_ | refine HW_block ?_); refine HW_reg (fun K hK => ?_); simp (maxSteps := 2000000) (disch := omega) only [push_cast, Nat.reduceBEq, Nat.reduceAdd, Nat.reduceLT, Nat.reduceEqDiff, reduceIte, reduceCtorEq, Nat.reduceLeDiff, Nat.reduceSub, List.reduceReplicate, Nat.reduceMul, Int.reduceToNat, Int.toNat_natCast, Nat.reducePow, reduceIte, cond_true', ltT, ltF, leT, leF, eqT, eqF, getD_map, wr64, toNat_succ, toNat_add]; refine hK _ ?_; clear hK K
  (repeat first | refine HW_seq ?_ | refine hseqQ_normal ?_ | refine HW_skip ?_ | refine hblkQ_normal ?_ | refine HW_block ?_); refine HW_reg (fun K hK => ?_); simp (maxSteps := 2000000) (disch := omega) only [push_cast, Nat.reduceBEq, Nat.reduceAdd, Nat.reduceLT, Nat.reduceEqDiff, reduceIte, reduceCtorEq, Nat.reduceLeDiff, Nat.reduceSub, List.reduceReplicate, Nat.reduceMul, Int.reduceToNat, Int.toNat_natCast, Nat.reducePow, reduceIte, cond_true', ltT, ltF, leT, leF, eqT, eqF, getD_map, wr64, toNat_succ, toNat_add]
  refine hatv cl21 awake_H .nil ?_
  by_cases hlim : 400 < a.length + c.length ∨ 400 < b.length + c.length
  · by_cases h1 : 400 < a.length + c.length
    · refine hstop ?_; simp (maxSteps := 2000000) (disch := omega) only [push_cast, Nat.reduceBEq, Nat.reduceAdd, Nat.reduceLT, Nat.reduceEqDiff, reduceIte, reduceCtorEq, Nat.reduceLeDiff, Nat.reduceSub, List.reduceReplicate, Nat.reduceMul, Int.reduceToNat, Int.toNat_natCast, Nat.reducePow, reduceIte, cond_true', ltT, ltF, leT, leF, eqT, eqF, getD_map, wr64, toNat_succ, toNat_add, strs_len]
      refine hK _ ?_; clear hK K
      (repeat first | refine HW_seq ?_ | refine hseqQ_normal ?_ | refine HW_skip ?_ | refine hblkQ_normal ?_ | refine HW_block ?_)
      refine HW_true rfl ?_
      (repeat first | refine HW_seq ?_ | refine hseqQ_normal ?_ | refine HW_skip ?_ | refine hblkQ_normal ?_ | refine HW_block ?_); refine HW_reg (fun K hK => ?_); simp (maxSteps := 2000000) (disch := omega) only [push_cast, Nat.reduceBEq, Nat.reduceAdd, Nat.reduceLT, Nat.reduceEqDiff, reduceIte, reduceCtorEq, Nat.reduceLeDiff, Nat.reduceSub, List.reduceReplicate, Nat.reduceMul, Int.reduceToNat, Int.toNat_natCast, Nat.reducePow, reduceIte, cond_true', ltT, ltF, leT, leF, eqT, eqF, getD_map, wr64, toNat_succ, toNat_add]
      refine hatv cl21 awake_H .nil ?_
      refine hstop ?_; simp (maxSteps := 2000000) (disch := omega) only [push_cast, Nat.reduceBEq, Nat.reduceAdd, Nat.reduceLT, Nat.reduceEqDiff, reduceIte, reduceCtorEq, Nat.reduceLeDiff, Nat.reduceSub, List.reduceReplicate, Nat.reduceMul, Int.reduceToNat, Int.toNat_natCast, Nat.reducePow, reduceIte, cond_true', ltT, ltF, leT, leF, eqT, eqF, getD_map, wr64, toNat_succ, toNat_add]
      refine hK _ ?_; clear hK K
      (repeat first | refine hseqQ_ret ?_ | refine hseqQ_exit ?_ | refine hblkQ_exit ?_ | refine hblkQ_other rfl ?_ | refine hblkQ_ret ?_ | refine hblkQ_normal ?_ | refine HW_seq ?_ | refine hseqQ_normal ?_ | refine HW_skip ?_ | refine HW_exit ?_ | refine HW_ret ?_)
      simp only [hfunQ_normal, hfunQ_ret, resH_nil, resH_cons, htup_one, htup_two, hlk_nil, hlk_cons, Nat.reduceEqDiff, reduceIte, reduceCtorEq]
      exact hres_v rfl
    · refine hstop ?_; simp (maxSteps := 2000000) (disch := omega) only [push_cast, Nat.reduceBEq, Nat.reduceAdd, Nat.reduceLT, Nat.reduceEqDiff, reduceIte, reduceCtorEq, Nat.reduceLeDiff, Nat.reduceSub, List.reduceReplicate, Nat.reduceMul, Int.reduceToNat, Int.toNat_natCast, Nat.reducePow, reduceIte, cond_true', ltT, ltF, leT, leF, eqT, eqF, getD_map, wr64, toNat_succ, toNat_add, strs_len]
      refine hK _ ?_; clear hK K
      (repeat first | refine HW_seq ?_ | refine hseqQ_normal ?_ | refine HW_skip ?_ | refine hblkQ_normal ?_ | refine HW_block ?_)
      refine HW_true rfl ?_
      (repeat first | refine HW_seq ?_ | refine hseqQ_normal ?_ | refine HW_skip ?_ | refine hblkQ_normal ?_ | refine HW_block ?_); refine HW_reg (fun K hK => ?_); simp (maxSteps := 2000000) (disch := omega) only [push_cast, Nat.reduceBEq, Nat.reduceAdd, Nat.reduceLT, Nat.reduceEqDiff, reduceIte, reduceCtorEq, Nat.reduceLeDiff, Nat.reduceSub, List.reduceReplicate, Nat.reduceMul, Int.reduceToNat, Int.toNat_natCast, Nat.reducePow, reduceIte, cond_true', ltT, ltF, leT, leF, eqT, eqF, getD_map, wr64, toNat_succ, toNat_add]
      refine hatv cl21 awake_H .nil ?_
      refine hstop ?_; simp (maxSteps := 2000000) (disch := omega) only [push_cast, Nat.reduceBEq, Nat.reduceAdd, Nat.reduceLT, Nat.reduceEqDiff, reduceIte, reduceCtorEq, Nat.reduceLeDiff, Nat.reduceSub, List.reduceReplicate, Nat.reduceMul, Int.reduceToNat, Int.toNat_natCast, Nat.reducePow, reduceIte, cond_true', ltT, ltF, leT, leF, eqT, eqF, getD_map, wr64, toNat_succ, toNat_add]
      refine hK _ ?_; clear hK K
      (repeat first | refine hseqQ_ret ?_ | refine hseqQ_exit ?_ | refine hblkQ_exit ?_ | refine hblkQ_other rfl ?_ | refine hblkQ_ret ?_ | refine hblkQ_normal ?_ | refine HW_seq ?_ | refine hseqQ_normal ?_ | refine HW_skip ?_ | refine HW_exit ?_ | refine HW_ret ?_)
      simp only [hfunQ_normal, hfunQ_ret, resH_nil, resH_cons, htup_one, htup_two, hlk_nil, hlk_cons, Nat.reduceEqDiff, reduceIte, reduceCtorEq]
      exact hres_v rfl
  · refine hstop ?_; simp (maxSteps := 2000000) (disch := omega) only [push_cast, Nat.reduceBEq, Nat.reduceAdd, Nat.reduceLT, Nat.reduceEqDiff, reduceIte, reduceCtorEq, Nat.reduceLeDiff, Nat.reduceSub, List.reduceReplicate, Nat.reduceMul, Int.reduceToNat, Int.toNat_natCast, Nat.reducePow, reduceIte, cond_true', ltT, ltF, leT, leF, eqT, eqF, getD_map, wr64, toNat_succ, toNat_add, strs_len]
    refine hK _ ?_; clear hK K
    (repeat first | refine HW_seq ?_ | refine hseqQ_normal ?_ | refine HW_skip ?_ | refine hblkQ_normal ?_ | refine HW_block ?_)
    refine HW_false rfl ?_
    (repeat first | refine HW_seq ?_ | refine hseqQ_normal ?_ | refine HW_skip ?_ | refine hblkQ_normal ?_ | refine HW_block ?_); refine HW_reg (fun K hK => ?_); simp (maxSteps := 2000000) (disch := omega) only [push_cast, Nat.reduceBEq, Nat.reduceAdd, Nat.reduceLT, Nat.reduceEqDiff, reduceIte, reduceCtorEq, Nat.reduceLeDiff, Nat.reduceSub, List.reduceReplicate, Nat.reduceMul, Int.reduceToNat, Int.toNat_natCast, Nat.reducePow, reduceIte, cond_true', ltT, ltF, leT, leF, eqT, eqF, getD_map, wr64, toNat_succ, toNat_add]
    refine hat 296 cl22 (dist_H a a) (.cons (lendL (strs_old _)) (.cons (lendL (strs_old _)) .nil)) ?_
    rintro _ _ (⟨h, rfl, rfl⟩ | ⟨-, -, rfl, rfl⟩)
    · omega
    refine hstop ?_; simp (maxSteps := 2000000) (disch := omega) only [push_cast, Nat.reduceBEq, Nat.reduceAdd, Nat.reduceLT, Nat.reduceEqDiff, reduceIte, reduceCtorEq, Nat.reduceLeDiff, Nat.reduceSub, List.reduceReplicate, Nat.reduceMul, Int.reduceToNat, Int.toNat_natCast, Nat.reducePow, reduceIte, cond_true', ltT, ltF, leT, leF, eqT, eqF, getD_map, wr64, toNat_succ, toNat_add]
    refine hK _ ?_; clear hK K
    (repeat first | refine HW_seq ?_ | refine hseqQ_normal ?_ | refine HW_skip ?_ | refine hblkQ_normal ?_ | refine HW_block ?_); refine HW_reg (fun K hK => ?_); simp (maxSteps := 2000000) (disch := omega) only [push_cast, Nat.reduceBEq, Nat.reduceAdd, Nat.reduceLT, Nat.reduceEqDiff, reduceIte, reduceCtorEq, Nat.reduceLeDiff, Nat.reduceSub, List.reduceReplicate, Nat.reduceMul, Int.reduceToNat, Int.toNat_natCast, Nat.reducePow, reduceIte, cond_true', ltT, ltF, leT, leF, eqT, eqF, getD_map, wr64, toNat_succ, toNat_add]
    refine hat 344 cl22 (dist_H a b) (.cons (lendL (strs_old _)) (.cons (lendL (strs_old _)) .nil)) ?_
    rintro _ _ (⟨h, rfl, rfl⟩ | ⟨-, -, rfl, rfl⟩)
    · omega
    refine hstop ?_; simp (maxSteps := 2000000) (disch := omega) only [push_cast, Nat.reduceBEq, Nat.reduceAdd, Nat.reduceLT, Nat.reduceEqDiff, reduceIte, reduceCtorEq, Nat.reduceLeDiff, Nat.reduceSub, List.reduceReplicate, Nat.reduceMul, Int.reduceToNat, Int.toNat_natCast, Nat.reducePow, reduceIte, cond_true', ltT, ltF, leT, leF, eqT, eqF, getD_map, wr64, toNat_succ, toNat_add]
    refine hK _ ?_; clear hK K
    refine HW_keep [0, 1, 2, 7, 8, 9, 10] [] (by simp only [keep_eq, hkeep_nil, hkeep_cons, rkeep_nil, rkeep_cons, hlk_nil, hlk_cons, rlk_nil, rlk_cons, Nat.reduceEqDiff, reduceIte]; exact rfl) ?_
    (repeat first | refine HW_seq ?_ | refine hseqQ_normal ?_ | refine HW_skip ?_ | refine hblkQ_normal ?_ | refine HW_block ?_); refine HW_reg (fun K hK => ?_); simp (maxSteps := 2000000) (disch := omega) only [push_cast, Nat.reduceBEq, Nat.reduceAdd, Nat.reduceLT, Nat.reduceEqDiff, reduceIte, reduceCtorEq, Nat.reduceLeDiff, Nat.reduceSub, List.reduceReplicate, Nat.reduceMul, Int.reduceToNat, Int.toNat_natCast, Nat.reducePow, reduceIte, cond_true', ltT, ltF, leT, leF, eqT, eqF, getD_map, wr64, toNat_succ, toNat_add, strs_len, strs_wid, strs_app]
    refine hat 456 cl22 (dist_H (c ++ a) (c ++ b)) (.cons (lendO (strs_old _) rfl) (.cons (lendO (strs_old _) rfl) .nil)) ?_
    rintro _ _ (⟨h, rfl, rfl⟩ | ⟨-, -, rfl, rfl⟩)
    · simp only [List.length_append] at h; omega
    refine hstop ?_; simp (maxSteps := 2000000) (disch := omega) only [push_cast, Nat.reduceBEq, Nat.reduceAdd, Nat.reduceLT, Nat.reduceEqDiff, reduceIte, reduceCtorEq, Nat.reduceLeDiff, Nat.reduceSub, List.reduceReplicate, Nat.reduceMul, Int.reduceToNat, Int.toNat_natCast, Nat.reducePow, reduceIte, cond_true', ltT, ltF, leT, leF, eqT, eqF, getD_map, wr64, toNat_succ, toNat_add]
    refine hK _ ?_; clear hK K
    refine HW_keep [0, 1, 2, 7, 8, 9, 10, 11, 12] [] (by simp only [keep_eq, hkeep_nil, hkeep_cons, rkeep_nil, rkeep_cons, hlk_nil, hlk_cons, rlk_nil, rlk_cons, Nat.reduceEqDiff, reduceIte]; exact rfl) ?_
    (repeat first | refine HW_seq ?_ | refine hseqQ_normal ?_ | refine HW_skip ?_ | refine hblkQ_normal ?_ | refine HW_block ?_); refine HW_reg (fun K hK => ?_); simp (maxSteps := 2000000) (disch := omega) only [push_cast, Nat.reduceBEq, Nat.reduceAdd, Nat.reduceLT, Nat.reduceEqDiff, reduceIte, reduceCtorEq, Nat.reduceLeDiff, Nat.reduceSub, List.reduceReplicate, Nat.reduceMul, Int.reduceToNat, Int.toNat_natCast, Nat.reducePow, reduceIte, cond_true', ltT, ltF, leT, leF, eqT, eqF, getD_map, wr64, toNat_succ, toNat_add, strs_len, strs_wid, strs_app]
    refine hat 568 cl22 (dist_H (a ++ c) (b ++ c)) (.cons (lendO (strs_old _) rfl) (.cons (lendO (strs_old _) rfl) .nil)) ?_
    rintro _ _ (⟨h, rfl, rfl⟩ | ⟨-, -, rfl, rfl⟩)
    · simp only [List.length_append] at h; omega
    refine hstop ?_; simp (maxSteps := 2000000) (disch := omega) only [push_cast, Nat.reduceBEq, Nat.reduceAdd, Nat.reduceLT, Nat.reduceEqDiff, reduceIte, reduceCtorEq, Nat.reduceLeDiff, Nat.reduceSub, List.reduceReplicate, Nat.reduceMul, Int.reduceToNat, Int.toNat_natCast, Nat.reducePow, reduceIte, cond_true', ltT, ltF, leT, leF, eqT, eqF, getD_map, wr64, toNat_succ, toNat_add]
    refine hK _ ?_; clear hK K
    have e0 := dist_same a
    have e1 := dist_head a b c
    have e2 := dist_tail a b c
    refine HW_keep [0, 1, 7, 8, 9, 10, 11, 12, 13, 14] [] (by simp only [keep_eq, hkeep_nil, hkeep_cons, rkeep_nil, rkeep_cons, hlk_nil, hlk_cons, rlk_nil, rlk_cons, Nat.reduceEqDiff, reduceIte]; exact rfl) ?_
    rw [e0, e1, e2]
    (repeat first | refine HW_seq ?_ | refine hseqQ_normal ?_ | refine HW_skip ?_ | refine hblkQ_normal ?_ | refine HW_block ?_); refine HW_reg (fun K hK => ?_); simp (maxSteps := 2000000) (disch := omega) only [push_cast, Nat.reduceBEq, Nat.reduceAdd, Nat.reduceLT, Nat.reduceEqDiff, reduceIte, reduceCtorEq, Nat.reduceLeDiff, Nat.reduceSub, List.reduceReplicate, Nat.reduceMul, Int.reduceToNat, Int.toNat_natCast, Nat.reducePow, reduceIte, cond_true', ltT, ltF, leT, leF, eqT, eqF, getD_map, wr64, toNat_succ, toNat_add]
    refine hatv cl23 (same_H a b) (.cons (lendL (strs_old _)) (.cons (lendL (strs_old _)) .nil)) ?_
    have e3 : (decide ((dist (script a b) : Int) = 0) == decide (a = b)) = true := by
      have := dist_zero a b
      by_cases h : a = b
      · have h' := this.2 h; rw [decide_eq_true h, h']; rfl
      · have h' : ¬ dist (script a b) = 0 := fun e => h (this.1 e)
        simp [h, h']
    refine hstop ?_; simp (maxSteps := 2000000) (disch := omega) only [push_cast, Nat.reduceBEq, Nat.reduceAdd, Nat.reduceLT, Nat.reduceEqDiff, reduceIte, reduceCtorEq, Nat.reduceLeDiff, Nat.reduceSub, List.reduceReplicate, Nat.reduceMul, Int.reduceToNat, Int.toNat_natCast, Nat.reducePow, reduceIte, cond_true', ltT, ltF, leT, leF, eqT, eqF, getD_map, wr64, toNat_succ, toNat_add, e3]
    refine hK _ ?_; clear hK K
    (repeat first | refine hseqQ_ret ?_ | refine hseqQ_exit ?_ | refine hblkQ_exit ?_ | refine hblkQ_other rfl ?_ | refine hblkQ_ret ?_ | refine hblkQ_normal ?_ | refine HW_seq ?_ | refine hseqQ_normal ?_ | refine HW_skip ?_ | refine HW_exit ?_ | refine HW_ret ?_)
    simp only [hfunQ_normal, hfunQ_ret, resH_nil, resH_cons, htup_one, htup_two, hlk_nil, hlk_cons, Nat.reduceEqDiff, reduceIte, reduceCtorEq]
    exact hres_v rfl
end Go.Proofs.Ytlfenddhppoflaa
