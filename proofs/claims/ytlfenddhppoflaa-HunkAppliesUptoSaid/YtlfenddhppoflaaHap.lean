/-
  The walk of hunk.Apply.
-/
import Derived.Test.YtlfenddhppoflaaHnk
import Derived.Test.YtlfenddhppoflaaApe
set_option linter.unusedSimpArgs false
set_option linter.unusedVariables false
set_option maxRecDepth 20000
namespace Go.Proofs.Ytlfenddhppoflaa
open Go Go.Eng Go.RowKit Go.DiffM
attribute [local push_cast] ev_tmp ev_const ev_global ev_func evs_nil evs_cons stp_some stp_none dsts_nil dsts_cons argsE_nil argsE_cons intBin_add intBin_sub intBin_mul intBin_quo intBin_rem intBin_and intBin_or intBin_xor intBin_andNot intBin_eql intBin_neq intBin_lss intBin_leq intBin_gtr intBin_geq intBin_shl intBin_shr strBin_add strBin_eql strBin_neq strBin_lss strBin_leq strBin_gtr strBin_geq pureBin_int pureBin_str pureBin_beq pureBin_bne pureBin_peq pureBin_pne pureBin_seq pureBin_sne pureBin_agg effEq_eql effEq_neq pureUn_not pureUn_neg pureUn_xor pureConv_int pureConv_str pureField_eq pureIndexAddr_s pureIndexAddr_p pureIndex_s oInt_none oInt_some pureSlice_str pureSlice_sl pureB_len pureB_lens pureB_cap pureB_max pureB_min pureB_app pureB_copy po_move po_assign po_pick po_bin po_un po_conv po_field po_extract po_faddr po_iaddr po_index po_slice po_nil po_builtin po_call po_load po_store po_alloc po_box po_build po_buildS po_makeS eo_load eo_store eo_build eo_buildS eo_makeS eo_app eo_call eo_bin eq_load eq_build eq_call eq_bin parts_nil parts_cons outG_none outG_some dstOk_none dstOk_some out_eq outR_eq outOp_eq outQ_eq imm_load immQ_load imm_alloc imm_box imm_store imm_build imm_call imm_bin immQ_build immQ_call immQ_bin imm_buildS imm_makeS v2_nil v2_cons vq_nil vq_cons undef_eq
attribute [local push_cast] List.take_succ_cons List.take_zero List.drop_succ_cons List.drop_zero true_and and_true Option.isSome_some List.getElem?_cons_zero List.getElem?_cons_succ List.length_cons List.length_nil cond_true cond_false Int.toNat_natCast Nat.mul_one Nat.add_zero Nat.zero_add Addr.add_lit bne_self_eq_false beq_self_eq_true Bool.not_true Bool.not_false List.size_toArray Array.getD_eq_getD_getElem? List.getElem?_toArray Option.getD_some decide_true decide_false eq_self Bool.true_beq Bool.false_beq List.getD_cons_zero List.getD_cons_succ List.map_cons List.map_nil List.set_cons_zero List.set_cons_succ List.replicate_zero List.toList_toArray List.all_toArray List.all_cons List.all_nil Bool.and_self Bool.and_true Bool.true_and Bool.and_false Bool.false_and List.length_map List.length_append List.length_replicate List.length_set List.cons_append List.nil_append cond_triv Option.isSome_some Option.isSome_none beq_true beq_false Bool.not_false Option.map_some Bool.true_or Bool.false_or Bool.or_true Bool.or_false Bool.false_xor Bool.true_xor and_self beq_self_eq_true fv_default List.flatMap_cons List.flatMap_nil List.append_nil
attribute [local push_cast] lk_lo hlk_nil hlk_cons rlk_nil rlk_cons hev_tmp hev_const hev_global hev_func hevs_nil hevs_cons leaf_v leaf_none leaf_lst leaf_own leaf_ptr leaf_elt leaf_agg leaf_tup leaf_vw leaf_junk hPure_some hPure_none hop_eq heff_move heff_assign heff_pick heff_extract heff_field heff_faddr heff_nilc heff_iaddr heff_slice heff_load heff_store heff_alloc heff_box heff_build heff_buildS heff_makeS heff_len heff_app heff_callf heff_eql heff_neq heff_conv hMove_eq hPick_eq hExtract_eq hField_one hField_sub hFAddr_ptr hFAddr_elt hNil_ptr hNil_elt hIAddr_own hIAddr_lst hIAddr_ptr hIAddr_elt hIAddrR_eq hIAddrL_eq hIAddrP_eq hIAddrE_eq hLen_vw hSlice_own hSlice_vw hSliceR_eq hSliceV_eq rlen_sl hIAddr_vw hIAddrV_eq newsOf_vw hcells_vw hone_vw hkill_vw hren_vw hsub_vw ownIds_vw ownCell_vw hLen_own hLen_lst hLenR_hl hIAddrR_hl hLenR_eq hSlice_eq hSliceL_eq hLoad_ptr hLoad_elt hLoadR_sl hLoadR_sla hLoadR_bx hLoadR_bxa hLoadR_hl hLoadR_hla hStoreR_hl hStoreH_one hStoreH_agg hLoadE_one hLoadE_agg hStore_eq hStoreR_sl hStoreR_bx hStoreS_one hStoreS_agg hStoreB_one hStoreB_agg hAlloc_eq hBox_eq hBoxC_eq partsH_nil partsH_cons hfill_nil hfill_cons hBuild_eq hBuildF_eq hlit_nil hlit_cons hBuildS_eq allF_nil allF_cons hlitH_nil hlitH_cons hkl_eq hBuildSE_t hBuildSE_f hBuildSH_eq hBuildSF_eq hMake_eq newsOf_own newsOf_lst newsOf_nil hAppend_own newsH_own newsH_lst newsH_nil arr2_eq newsA_t newsA_f newsS_str hAppend_nil hAppR_hl hAppH_eq hAppR_eq hAppN_eq leafs_nil leafs_cons hEq_eq hEq_ptr hEq_elt hConv_str hConv_own hConv_lst hConvR_eq hConvL_eq bytesH_nil bytesH_cons hEqL_eq hCall_eq ats0_eq oneAll_eq hf_v hf_own hf_vw hf_ptr hf_lst hfs_nil hfs_cons fone_v fone_lst hone_v hone_lst hone_own hone_ptr fh_v fh_lst one_int hcellv_int one_bool hcellv_bool one_str hcellv_str one_slice hcellv_slice one_ptr hcellv_ptr hcells_agg hcells_lst hcells_own hcells_ptr splice_eq kill_eq row_eq set_some set_none rep_eq hrep_nil hrep_cons ekill_nil ekill_cons skill_nil skill_cons rkill_sl rkill_hl rkill_bx hkill_v hren_v hsub_v hkill_lst hren_lst hsub_lst hkill_elt hren_elt hsub_elt hkill_junk hren_junk hsub_junk hkill_own hkill_ptr hkill_agg hkill_tup hren_own hren_ptr hren_agg hren_tup hsub_own hsub_ptr hsub_agg hsub_tup rren_sl rren_hl rren_bx rsub_sl rsub_hl rsub_bx only_eq eight_eq sh_eq adds_eq radds_nil radds_cons rest_eq esub_nil esub_cons ssub_nil ssub_cons sset_nil sset_cons hG_none hG_some hGv_bool hGv_tup hgo_go hgo_call hgo_eqn hgo_bytes hgo_eq hgo1_eq hpre_move hpre_assign hpre_pick hpre_extract hpre_field hpre_faddr hpre_nilc hpre_iaddr hpre_slice hpre_load hpre_build hpre_bin hpre_un hpre_conv hpre_index hpre_call hpre_alloc hpre_box hpre_make hpre_store hpre_buildS ownsS_eq ownsR_sl ownsR_bx ownsP_eq ownIds_own ownIds_v ownIds_lst ownIds_agg ownCell_own ownCell_v ownCell_lst restAll_nil restAll_cons restOne_eq ownsR_hl hskip_eq hstep_yes hstep_no hstep_ask hv2_nil hv2_cons hgoq_go hgoq_call hgoq_eqn hgoq_eq hstepq_yes hstepq_no hstepq_ask hvq_nil hvq_cons slotX_tmp slotX_const slotX_global slotX_func slotsL_nil slotsL_cons slotsP_nil slotsP_cons slotO_some slotO_none slotsOf_move slotsOf_assign slotsOf_nilc slotsOf_pick slotsOf_extract slotsOf_field slotsOf_faddr slotsOf_load slotsOf_un slotsOf_conv slotsOf_iaddr slotsOf_index slotsOf_slice slotsOf_bin slotsOf_build slotsOf_buildS slotsOf_makeS slotsOf_call slotG_none slotG_some pickE_nil pickE_cons plainE_nil plainE_v plainE_lst plainE_agg hmade_eq made_buildS made_makeS quiet_buildS quiet_makeS hgor_go hgor_call hgor_eqn hgor_eq hstepr_yes hstepr_no hstepr_ask hvr_nil hvr_cons idOf_some idOf_none quiet_move quiet_assign quiet_pick quiet_extract quiet_field quiet_faddr quiet_nilc quiet_iaddr quiet_slice quiet_load quiet_build quiet_bin quiet_un quiet_conv quiet_index quiet_len quiet_min argsH_nil argsH_cons
attribute [local push_cast] fo53_0 fo53_1 fo53_2 kt22 kt3 kt53 se22 us22 us45 zt53
/-- a piece that is handed in: it may say any place -/
structure HkZ where
  at_ : Int
  old : List ByteArray
  new : List ByteArray
def hkzE (fr : Bool) (h : HkZ) : List FV := [.v (.int .i64 h.at_), .lst fr (strs h.old), .lst fr (strs h.new)]
def hkz (fr : Bool) (l : List HkZ) : List (List FV) := l.map (hkzE fr)
theorem hkz_len (fr : Bool) (l : List HkZ) : (hkz fr l).length = l.length := by simp [hkz]
theorem hkz_wid (fr : Bool) (l : List HkZ) : Wid 3 (hkz fr l) = True := eq_true (wid_map l fun _ => rfl)
theorem hkz_get {fr : Bool} {l : List HkZ} {i : Nat} {d : List FV} (h : i < l.length) : (hkz fr l).getD i d = [.v (.int .i64 l[i].at_), .lst fr (strs l[i].old), .lst fr (strs l[i].new)] := by unfold hkz; rw [getD_map h]; rfl
theorem hkz_old (fr : Bool) (l : List HkZ) : olds (hkz fr l) = hkz false l := by
  simp only [olds, hkz, List.map_map]
  apply List.map_congr_left
  intro h _
  simp only [Function.comp, hkzE, List.map_cons, List.map_nil, fold_v, fold_lst, strs_old]
def apF (a : List ByteArray) : List HkZ → Nat → List ByteArray → Int × List ByteArray
  | [], p, out => (0, out ++ a.drop p)
  | h :: r, p, out => if h.at_ < p ∨ (a.length : Int) < h.at_ then (3, []) else
    if h.old.length ≤ a.length - h.at_.toNat ∧ (a.take (h.at_.toNat + h.old.length)).drop h.at_.toNat = h.old then apF a r (h.at_.toNat + h.old.length) (out ++ (a.take h.at_.toNat).drop p ++ h.new) else (11, [])
def newsum : List HkZ → Nat
  | [] => 0
  | h :: r => h.new.length + newsum r
def ApQ (r : Int × List ByteArray) (h : HV) (st : Store) : Prop :=
  (r.1 ≠ 0 ∧ h = .tup [.v (.slice none 0 0), .v (.int .i64 r.1)] ∧ st = []) ∨ (r.1 = 0 ∧ h = .tup [.own 0, .v (.int .i64 0)] ∧ st = [(0, .sl true 9 1 (strs r.2))])
theorem strs_snoc2 (a b : List ByteArray) : strs a ++ strs b = strs (a ++ b) := by simp [strs]
set_option maxHeartbeats 8000000 in
theorem apply_H (a : List ByteArray) (H : List HkZ) (hN : a.length + newsum H ≤ 4000000) (hI : ∀ x ∈ H, -9223372036854775808 ≤ x.at_ ∧ x.at_ ≤ 9223372036854775807) (hL : H.length ≤ 140737488355328) (hO : ∀ x ∈ H, x.old.length ≤ 140737488355328) :
    HFun Try.prog 34 [.lst false (strs a), .lst false (hkz false H)] (ApQ (apF a H 0 [])) := by
  refine hfun (N := 75) Try.func34 rfl Try.ntmps34 Try.results34 (by simp) ?_
  (repeat first | refine HW_seq ?_ | refine hseqQ_normal ?_ | refine HW_skip ?_ | refine hblkQ_normal ?_ | refine HW_block ?_); refine HW_reg (fun K hK => ?_); simp (maxSteps := 2000000) (disch := omega) only [push_cast, ↓Int.cast_ofNat_Int, Nat.reduceBEq, Nat.reduceAdd, Nat.reduceLT, Nat.reduceEqDiff, reduceIte, reduceCtorEq, Nat.reduceLeDiff, Nat.reduceSub, List.reduceReplicate, Nat.reduceMul, Int.reduceToNat, Int.toNat_natCast, Nat.reducePow, reduceIte, cond_true', ltT, ltF, leT, leF, eqT, eqF, getD_map, wr64, toNat_succ, toNat_add]; refine hK _ ?_; clear hK K
  (repeat first | refine HW_seq ?_ | refine hseqQ_normal ?_ | refine HW_skip ?_ | refine hblkQ_normal ?_ | refine HW_block ?_); refine HW_reg (fun K hK => ?_); simp (maxSteps := 2000000) (disch := omega) only [push_cast, ↓Int.cast_ofNat_Int, Nat.reduceBEq, Nat.reduceAdd, Nat.reduceLT, Nat.reduceEqDiff, reduceIte, reduceCtorEq, Nat.reduceLeDiff, Nat.reduceSub, List.reduceReplicate, Nat.reduceMul, Int.reduceToNat, Int.toNat_natCast, Nat.reducePow, reduceIte, cond_true', ltT, ltF, leT, leF, eqT, eqF, getD_map, wr64, toNat_succ, toNat_add]; refine hK _ ?_; clear hK K
  (repeat first | refine HW_seq ?_ | refine hseqQ_normal ?_ | refine HW_skip ?_ | refine hblkQ_normal ?_ | refine HW_block ?_); refine HW_reg (fun K hK => ?_); simp (maxSteps := 2000000) (disch := omega) only [push_cast, ↓Int.cast_ofNat_Int, Nat.reduceBEq, Nat.reduceAdd, Nat.reduceLT, Nat.reduceEqDiff, reduceIte, reduceCtorEq, Nat.reduceLeDiff, Nat.reduceSub, List.reduceReplicate, Nat.reduceMul, Int.reduceToNat, Int.toNat_natCast, Nat.reducePow, reduceIte, cond_true', ltT, ltF, leT, leF, eqT, eqF, getD_map, wr64, toNat_succ, toNat_add]; refine hK _ ?_; clear hK K
  (repeat first | refine HW_seq ?_ | refine hseqQ_normal ?_ | refine HW_skip ?_ | refine hblkQ_normal ?_ | refine HW_block ?_); refine HW_reg (fun K hK => ?_); simp (maxSteps := 2000000) (disch := omega) only [push_cast, ↓Int.cast_ofNat_Int, Nat.reduceBEq, Nat.reduceAdd, Nat.reduceLT, Nat.reduceEqDiff, reduceIte, reduceCtorEq, Nat.reduceLeDiff, Nat.reduceSub, List.reduceReplicate, Nat.reduceMul, Int.reduceToNat, Int.toNat_natCast, Nat.reducePow, reduceIte, cond_true', ltT, ltF, leT, leF, eqT, eqF, getD_map, wr64, toNat_succ, toNat_add, hkz_len]; refine hK _ ?_; clear hK K
  refine HW_keep [0, 6, 7, 11, 12, 13] [80] (by simp only [keep_eq, hkeep_nil, hkeep_cons, rkeep_nil, rkeep_cons, hlk_nil, hlk_cons, rlk_nil, rlk_cons, Nat.reduceEqDiff, reduceIte]; exact rfl) ?_
  (repeat first | refine HW_seq ?_ | refine hseqQ_normal ?_ | refine HW_skip ?_ | refine hblkQ_normal ?_ | refine HW_block ?_)
  have hR0 : apF a H 0 [] = apF a (H.drop 0) 0 [] := rfl
  generalize apF a H 0 [] = R at hR0 ⊢
  refine HW_loop (fun x : Nat × Nat × List ByteArray => ⟨[(0, .lst false (strs a)), (6, .own 80), (7, .v (.int .i64 x.2.1)), (11, .lst false (hkz false H)), (12, .v (.int .i64 H.length)), (13, .v (.int .i64 x.1))], [(80, .sl true 9 1 (strs x.2.2))]⟩)
    (fun x => x.1 ≤ H.length ∧ x.2.1 ≤ a.length ∧ x.2.2.length + newsum (H.drop x.1) ≤ x.2.1 + newsum H ∧ R = apF a (H.drop x.1) x.2.1 x.2.2) (fun x => H.length - x.1)
    [0, 6, 7, 11, 12, 13] [80] (0, 0, []) rfl ⟨Nat.zero_le _, Nat.zero_le _, by simp, hR0⟩ ?_
  rintro ⟨i, p, out⟩ ⟨hi, hp, hs, hR⟩
  simp only at hi hp hs hR
  by_cases hlt : i < H.length
  · rw [List.drop_eq_getElem_cons hlt] at hR hs
    obtain ⟨x, hx⟩ : ∃ x, H[i] = x := ⟨_, rfl⟩
    have hxm : x ∈ H := hx ▸ List.getElem_mem hlt
    rw [hx] at hR hs
    obtain ⟨w1, w2⟩ := hI x hxm
    have hxo := hO x hxm
    rw [newsum] at hs
    (repeat first | refine HW_seq ?_ | refine hseqQ_normal ?_ | refine HW_skip ?_ | refine hblkQ_normal ?_ | refine HW_block ?_); refine HW_reg (fun K hK => ?_); simp (maxSteps := 2000000) (disch := omega) only [push_cast, ↓Int.cast_ofNat_Int, Nat.reduceBEq, Nat.reduceAdd, Nat.reduceLT, Nat.reduceEqDiff, reduceIte, reduceCtorEq, Nat.reduceLeDiff, Nat.reduceSub, List.reduceReplicate, Nat.reduceMul, Int.reduceToNat, Int.toNat_natCast, Nat.reducePow, reduceIte, cond_true', ltT, ltF, leT, leF, eqT, eqF, getD_map, wr64, toNat_succ, toNat_add]; refine hK _ ?_; clear hK K
    (repeat first | refine HW_seq ?_ | refine hseqQ_normal ?_ | refine HW_skip ?_ | refine hblkQ_normal ?_ | refine HW_block ?_)
    refine HW_true rfl ?_
    (repeat first | refine hseqQ_ret ?_ | refine hseqQ_exit ?_ | refine hblkQ_exit ?_ | refine hblkQ_other rfl ?_ | refine hblkQ_ret ?_ | refine hblkQ_normal ?_ | refine HW_seq ?_ | refine hseqQ_normal ?_ | refine HW_skip ?_ | refine HW_exit ?_ | refine HW_ret ?_)
    (repeat first | refine HW_seq ?_ | refine hseqQ_normal ?_ | refine HW_skip ?_ | refine hblkQ_normal ?_ | refine HW_block ?_); refine HW_reg (fun K hK => ?_); simp (maxSteps := 2000000) (disch := omega) only [push_cast, ↓Int.cast_ofNat_Int, Nat.reduceBEq, Nat.reduceAdd, Nat.reduceLT, Nat.reduceEqDiff, reduceIte, reduceCtorEq, Nat.reduceLeDiff, Nat.reduceSub, List.reduceReplicate, Nat.reduceMul, Int.reduceToNat, Int.toNat_natCast, Nat.reducePow, reduceIte, cond_true', ltT, ltF, leT, leF, eqT, eqF, getD_map, wr64, toNat_succ, toNat_add, hkz_len, hkz_wid, hkz_get hlt, hx]; refine hK _ ?_; clear hK K
    refine HW_keep [0, 6, 7, 9, 11, 12, 13] [72, 80] (by simp only [keep_eq, hkeep_nil, hkeep_cons, rkeep_nil, rkeep_cons, hlk_nil, hlk_cons, rlk_nil, rlk_cons, Nat.reduceEqDiff, reduceIte]; exact rfl) ?_
    by_cases c1 : x.at_ < p
    · (repeat first | refine HW_seq ?_ | refine hseqQ_normal ?_ | refine HW_skip ?_ | refine hblkQ_normal ?_ | refine HW_block ?_); refine HW_reg (fun K hK => ?_); simp (maxSteps := 2000000) (disch := omega) only [push_cast, ↓Int.cast_ofNat_Int, Nat.reduceBEq, Nat.reduceAdd, Nat.reduceLT, Nat.reduceEqDiff, reduceIte, reduceCtorEq, Nat.reduceLeDiff, Nat.reduceSub, List.reduceReplicate, Nat.reduceMul, Int.reduceToNat, Int.toNat_natCast, Nat.reducePow, reduceIte, cond_true', ltT, ltF, leT, leF, eqT, eqF, getD_map, wr64, toNat_succ, toNat_add, hkz_len]; refine hK _ ?_; clear hK K
      refine HW_true rfl ?_
      (repeat first | refine HW_seq ?_ | refine hseqQ_normal ?_ | refine HW_skip ?_ | refine hblkQ_normal ?_ | refine HW_block ?_); refine HW_reg (fun K hK => ?_); simp (maxSteps := 2000000) (disch := omega) only [push_cast, ↓Int.cast_ofNat_Int, Nat.reduceBEq, Nat.reduceAdd, Nat.reduceLT, Nat.reduceEqDiff, reduceIte, reduceCtorEq, Nat.reduceLeDiff, Nat.reduceSub, List.reduceReplicate, Nat.reduceMul, Int.reduceToNat, Int.toNat_natCast, Nat.reducePow, reduceIte, cond_true', ltT, ltF, leT, leF, eqT, eqF, getD_map, wr64, toNat_succ, toNat_add]; refine hK _ ?_; clear hK K
      (repeat first | refine hseqQ_ret ?_ | refine hseqQ_exit ?_ | refine hblkQ_exit ?_ | refine hblkQ_other rfl ?_ | refine hblkQ_ret ?_ | refine hblkQ_normal ?_ | refine HW_seq ?_ | refine hseqQ_normal ?_ | refine HW_skip ?_ | refine HW_exit ?_ | refine HW_ret ?_)
      simp only [hfunQ_normal, hfunQ_ret, resH_nil, resH_cons, htup_one, htup_two, hlk_nil, hlk_cons, Nat.reduceEqDiff, reduceIte, reduceCtorEq]
      rw [apF, if_pos (.inl c1)] at hR
      subst hR
      exact hres_vv (.inl ⟨by decide, rfl, rfl⟩)
    by_cases c2 : (a.length : Int) < x.at_
    · (repeat first | refine HW_seq ?_ | refine hseqQ_normal ?_ | refine HW_skip ?_ | refine hblkQ_normal ?_ | refine HW_block ?_); refine HW_reg (fun K hK => ?_); simp (maxSteps := 2000000) (disch := omega) only [push_cast, ↓Int.cast_ofNat_Int, Nat.reduceBEq, Nat.reduceAdd, Nat.reduceLT, Nat.reduceEqDiff, reduceIte, reduceCtorEq, Nat.reduceLeDiff, Nat.reduceSub, List.reduceReplicate, Nat.reduceMul, Int.reduceToNat, Int.toNat_natCast, Nat.reducePow, reduceIte, cond_true', ltT, ltF, leT, leF, eqT, eqF, getD_map, wr64, toNat_succ, toNat_add, strs_len]; refine hK _ ?_; clear hK K
      refine HW_true rfl ?_
      (repeat first | refine HW_seq ?_ | refine hseqQ_normal ?_ | refine HW_skip ?_ | refine hblkQ_normal ?_ | refine HW_block ?_); refine HW_reg (fun K hK => ?_); simp (maxSteps := 2000000) (disch := omega) only [push_cast, ↓Int.cast_ofNat_Int, Nat.reduceBEq, Nat.reduceAdd, Nat.reduceLT, Nat.reduceEqDiff, reduceIte, reduceCtorEq, Nat.reduceLeDiff, Nat.reduceSub, List.reduceReplicate, Nat.reduceMul, Int.reduceToNat, Int.toNat_natCast, Nat.reducePow, reduceIte, cond_true', ltT, ltF, leT, leF, eqT, eqF, getD_map, wr64, toNat_succ, toNat_add]; refine hK _ ?_; clear hK K
      (repeat first | refine hseqQ_ret ?_ | refine hseqQ_exit ?_ | refine hblkQ_exit ?_ | refine hblkQ_other rfl ?_ | refine hblkQ_ret ?_ | refine hblkQ_normal ?_ | refine HW_seq ?_ | refine hseqQ_normal ?_ | refine HW_skip ?_ | refine HW_exit ?_ | refine HW_ret ?_)
      simp only [hfunQ_normal, hfunQ_ret, resH_nil, resH_cons, htup_one, htup_two, hlk_nil, hlk_cons, Nat.reduceEqDiff, reduceIte, reduceCtorEq]
      rw [apF, if_pos (.inr c2)] at hR
      subst hR
      exact hres_vv (.inl ⟨by decide, rfl, rfl⟩)
    obtain ⟨q, hq⟩ : ∃ q : Nat, x.at_ = q := ⟨x.at_.toNat, by omega⟩
    rw [apF, if_neg (by omega)] at hR
    rw [hq] at hR
    simp only [Int.toNat_natCast] at hR
    rw [hq]
    (repeat first | refine HW_seq ?_ | refine hseqQ_normal ?_ | refine HW_skip ?_ | refine hblkQ_normal ?_ | refine HW_block ?_); refine HW_reg (fun K hK => ?_); simp (maxSteps := 2000000) (disch := omega) only [push_cast, ↓Int.cast_ofNat_Int, Nat.reduceBEq, Nat.reduceAdd, Nat.reduceLT, Nat.reduceEqDiff, reduceIte, reduceCtorEq, Nat.reduceLeDiff, Nat.reduceSub, List.reduceReplicate, Nat.reduceMul, Int.reduceToNat, Int.toNat_natCast, Nat.reducePow, reduceIte, cond_true', ltT, ltF, leT, leF, eqT, eqF, getD_map, wr64, toNat_succ, toNat_add, strs_len]; refine hK _ ?_; clear hK K
    refine HW_false rfl ?_
    (repeat first | refine hseqQ_ret ?_ | refine hseqQ_exit ?_ | refine hblkQ_exit ?_ | refine hblkQ_other rfl ?_ | refine hblkQ_ret ?_ | refine hblkQ_normal ?_ | refine hseqQ_normal ?_ | refine HW_skip ?_ | refine HW_exit ?_ | refine HW_ret ?_)
    refine HW_keep [0, 6, 7, 9, 11, 12, 13] [72, 80] (by simp only [keep_eq, hkeep_nil, hkeep_cons, rkeep_nil, rkeep_cons, hlk_nil, hlk_cons, rlk_nil, rlk_cons, Nat.reduceEqDiff, reduceIte]; exact rfl) ?_
    have e1 : (a.length : Int) - (q : Int) = ((a.length - q : Nat) : Int) := by omega
    by_cases c3 : x.old.length ≤ a.length - q
    · have c4 := sequal_H ((a.take (q + x.old.length)).drop q) x.old (by rw [List.length_drop, List.length_take]; omega) hxo
      by_cases c5 : (a.take (q + x.old.length)).drop q = x.old
      · rw [decide_eq_true c5] at c4
        rw [if_pos ⟨c3, c5⟩] at hR
        (repeat first | refine HW_seq ?_ | refine hseqQ_normal ?_ | refine HW_skip ?_ | refine hblkQ_normal ?_ | refine HW_block ?_); refine HW_drwR2 24 mixed (by kernel_rfl) (fun K hK K1 hK1 => ?_); simp (maxSteps := 2000000) (disch := omega) only [push_cast, ↓Int.cast_ofNat_Int, Nat.reduceBEq, Nat.reduceAdd, Nat.reduceLT, Nat.reduceEqDiff, reduceIte, reduceCtorEq, Nat.reduceLeDiff, Nat.reduceSub, List.reduceReplicate, Nat.reduceMul, Int.reduceToNat, Int.toNat_natCast, Nat.reducePow, reduceIte, cond_true', ltT, ltF, leT, leF, eqT, eqF, getD_map, wr64, toNat_succ, toNat_add, strs_len, strs_wid, strs_take, strs_drop]
        refine hatRv cl62 c4 (.cons (lendL (strs_old _)) (.cons (lendL (strs_old _)) .nil)) ?_
        with_reducible refine hstop ?_; simp (maxSteps := 2000000) (disch := omega) only [push_cast, ↓Int.cast_ofNat_Int, Nat.reduceBEq, Nat.reduceAdd, Nat.reduceLT, Nat.reduceEqDiff, reduceIte, reduceCtorEq, Nat.reduceLeDiff, Nat.reduceSub, List.reduceReplicate, Nat.reduceMul, Int.reduceToNat, Int.toNat_natCast, Nat.reducePow, reduceIte, cond_true', ltT, ltF, leT, leF, eqT, eqF, getD_map, wr64, toNat_succ, toNat_add]
        refine hK1 _ ?_; clear hK1 K1; with_reducible refine hstop ?_; simp (maxSteps := 2000000) (disch := omega) only [push_cast, ↓Int.cast_ofNat_Int, Nat.reduceBEq, Nat.reduceAdd, Nat.reduceLT, Nat.reduceEqDiff, reduceIte, reduceCtorEq, Nat.reduceLeDiff, Nat.reduceSub, List.reduceReplicate, Nat.reduceMul, Int.reduceToNat, Int.toNat_natCast, Nat.reducePow, reduceIte, cond_true', ltT, ltF, leT, leF, eqT, eqF, getD_map, wr64, toNat_succ, toNat_add]
        refine hK _ ?_; clear hK K
        refine HW_false rfl ?_
        (repeat first | refine hseqQ_ret ?_ | refine hseqQ_exit ?_ | refine hblkQ_exit ?_ | refine hblkQ_other rfl ?_ | refine hblkQ_ret ?_ | refine hblkQ_normal ?_ | refine hseqQ_normal ?_ | refine HW_skip ?_ | refine HW_exit ?_ | refine HW_ret ?_)
        refine HW_keep [0, 6, 7, 9, 11, 12, 13] [72, 80] (by simp only [keep_eq, hkeep_nil, hkeep_cons, rkeep_nil, rkeep_cons, hlk_nil, hlk_cons, rlk_nil, rlk_cons, Nat.reduceEqDiff, reduceIte]; exact rfl) ?_
        have hdl : ((a.take q).drop p).length = q - p := by rw [List.length_drop, List.length_take]; omega
        have hnn : x.new.length + newsum (H.drop (i + 1)) ≤ newsum H + p := by omega
        have hsn : newsum H ≤ 4000000 := by omega
        (repeat first | refine HW_seq ?_ | refine hseqQ_normal ?_ | refine HW_skip ?_ | refine hblkQ_normal ?_ | refine HW_block ?_); refine HW_drwA 9 [(6, 80, [0])] mixed (by kernel_rfl) (by kernel_rfl) (by simp only [wids_nil, wids_cons, skill_nil, skill_cons, inl_nil, inl_cons, rkill_sl, rkill_bx, rkill_hl, hkill_v, hkill_lst, hkill_own, hkill_ptr, hkill_vw, hkill_agg, hkill_tup, hkill_junk, List.map_cons, List.map_nil, Nat.reduceBEq, Bool.or_false, Bool.false_or, Bool.true_or, Bool.or_true, cond_true, cond_false]; exact rfl) (fun K hK K1 hK1 => ?_); simp (maxSteps := 2000000) (disch := omega) only [push_cast, ↓Int.cast_ofNat_Int, Nat.reduceBEq, Nat.reduceAdd, Nat.reduceLT, Nat.reduceEqDiff, reduceIte, reduceCtorEq, Nat.reduceLeDiff, Nat.reduceSub, List.reduceReplicate, Nat.reduceMul, Int.reduceToNat, Int.toNat_natCast, Nat.reducePow, reduceIte, cond_true', ltT, ltF, leT, leF, eqT, eqF, getD_map, wr64, toNat_succ, toNat_add, inl_nil, inl_cons, wids_nil, wids_cons, bad_nil, bad_cons, wat_nil, wat_cons, accD_nil, accD_cons, accS_nil, accS_cons, finE_nil, finE_cons, hapd2_go, hapd1_sl, hapd_eq, hva_nil, hva_cons, strs_len, strs_wid, strs_take, strs_drop, strs_snoc2, hdl]
        try refine ⟨by unfold Cond; omega, ?_⟩
        refine hK1 _ ?_; clear hK1 K1; with_reducible refine hstop ?_; simp (maxSteps := 2000000) (disch := omega) only [push_cast, ↓Int.cast_ofNat_Int, Nat.reduceBEq, Nat.reduceAdd, Nat.reduceLT, Nat.reduceEqDiff, reduceIte, reduceCtorEq, Nat.reduceLeDiff, Nat.reduceSub, List.reduceReplicate, Nat.reduceMul, Int.reduceToNat, Int.toNat_natCast, Nat.reducePow, reduceIte, cond_true', ltT, ltF, leT, leF, eqT, eqF, getD_map, wr64, toNat_succ, toNat_add, strs_len, strs_wid, strs_snoc2, hdl]
        try refine ⟨by unfold Cond; (try simp only [List.length_append, hdl]); omega, ?_⟩
        refine hK _ ?_; clear hK K
        (repeat first | refine hseqQ_ret ?_ | refine hseqQ_exit ?_ | refine hblkQ_exit ?_ | refine hblkQ_other rfl ?_ | refine hblkQ_ret ?_ | refine hblkQ_normal ?_ | refine HW_seq ?_ | refine hseqQ_normal ?_ | refine HW_skip ?_ | refine HW_exit ?_ | refine HW_ret ?_)
        (repeat first | refine HW_seq ?_ | refine hseqQ_normal ?_ | refine HW_skip ?_ | refine hblkQ_normal ?_ | refine HW_block ?_); refine HW_reg (fun K hK => ?_); simp (maxSteps := 2000000) (disch := omega) only [push_cast, ↓Int.cast_ofNat_Int, Nat.reduceBEq, Nat.reduceAdd, Nat.reduceLT, Nat.reduceEqDiff, reduceIte, reduceCtorEq, Nat.reduceLeDiff, Nat.reduceSub, List.reduceReplicate, Nat.reduceMul, Int.reduceToNat, Int.toNat_natCast, Nat.reducePow, reduceIte, cond_true', ltT, ltF, leT, leF, eqT, eqF, getD_map, wr64, toNat_succ, toNat_add, strs_len]; refine hK _ ?_; clear hK K
        (repeat first | refine hseqQ_ret ?_ | refine hseqQ_exit ?_ | refine hblkQ_exit ?_ | refine hblkQ_other rfl ?_ | refine hblkQ_ret ?_ | refine hblkQ_normal ?_ | refine HW_seq ?_ | refine hseqQ_normal ?_ | refine HW_skip ?_ | refine HW_exit ?_ | refine HW_ret ?_)
        (repeat first | refine HW_seq ?_ | refine hseqQ_normal ?_ | refine HW_skip ?_ | refine hblkQ_normal ?_ | refine HW_block ?_); refine HW_reg (fun K hK => ?_); simp (maxSteps := 2000000) (disch := omega) only [push_cast, ↓Int.cast_ofNat_Int, Nat.reduceBEq, Nat.reduceAdd, Nat.reduceLT, Nat.reduceEqDiff, reduceIte, reduceCtorEq, Nat.reduceLeDiff, Nat.reduceSub, List.reduceReplicate, Nat.reduceMul, Int.reduceToNat, Int.toNat_natCast, Nat.reducePow, reduceIte, cond_true', ltT, ltF, leT, leF, eqT, eqF, getD_map, wr64, toNat_succ, toNat_add]; refine hK _ ?_; clear hK K
        (repeat first | refine hseqQ_ret ?_ | refine hseqQ_exit ?_ | refine hblkQ_exit ?_ | refine hblkQ_other rfl ?_ | refine hblkQ_ret ?_ | refine hblkQ_normal ?_ | refine HW_seq ?_ | refine hseqQ_normal ?_ | refine HW_skip ?_ | refine HW_exit ?_ | refine HW_ret ?_)
        refine ⟨(i + 1, q + x.old.length, out ++ (a.take q).drop p ++ x.new), rfl, ⟨hlt, by dsimp only; omega, ?_, hR⟩, by dsimp only; omega⟩
        dsimp only
        simp only [List.length_append, hdl]
        omega
      · rw [decide_eq_false c5] at c4
        rw [if_neg (fun h => c5 h.2)] at hR
        (repeat first | refine HW_seq ?_ | refine hseqQ_normal ?_ | refine HW_skip ?_ | refine hblkQ_normal ?_ | refine HW_block ?_); refine HW_drwR2 24 mixed (by kernel_rfl) (fun K hK K1 hK1 => ?_); simp (maxSteps := 2000000) (disch := omega) only [push_cast, ↓Int.cast_ofNat_Int, Nat.reduceBEq, Nat.reduceAdd, Nat.reduceLT, Nat.reduceEqDiff, reduceIte, reduceCtorEq, Nat.reduceLeDiff, Nat.reduceSub, List.reduceReplicate, Nat.reduceMul, Int.reduceToNat, Int.toNat_natCast, Nat.reducePow, reduceIte, cond_true', ltT, ltF, leT, leF, eqT, eqF, getD_map, wr64, toNat_succ, toNat_add, strs_len, strs_wid, strs_take, strs_drop]
        refine hatRv cl62 c4 (.cons (lendL (strs_old _)) (.cons (lendL (strs_old _)) .nil)) ?_
        with_reducible refine hstop ?_; simp (maxSteps := 2000000) (disch := omega) only [push_cast, ↓Int.cast_ofNat_Int, Nat.reduceBEq, Nat.reduceAdd, Nat.reduceLT, Nat.reduceEqDiff, reduceIte, reduceCtorEq, Nat.reduceLeDiff, Nat.reduceSub, List.reduceReplicate, Nat.reduceMul, Int.reduceToNat, Int.toNat_natCast, Nat.reducePow, reduceIte, cond_true', ltT, ltF, leT, leF, eqT, eqF, getD_map, wr64, toNat_succ, toNat_add]
        refine hK1 _ ?_; clear hK1 K1; with_reducible refine hstop ?_; simp (maxSteps := 2000000) (disch := omega) only [push_cast, ↓Int.cast_ofNat_Int, Nat.reduceBEq, Nat.reduceAdd, Nat.reduceLT, Nat.reduceEqDiff, reduceIte, reduceCtorEq, Nat.reduceLeDiff, Nat.reduceSub, List.reduceReplicate, Nat.reduceMul, Int.reduceToNat, Int.toNat_natCast, Nat.reducePow, reduceIte, cond_true', ltT, ltF, leT, leF, eqT, eqF, getD_map, wr64, toNat_succ, toNat_add]
        refine hK _ ?_; clear hK K
        refine HW_true rfl ?_
        (repeat first | refine HW_seq ?_ | refine hseqQ_normal ?_ | refine HW_skip ?_ | refine hblkQ_normal ?_ | refine HW_block ?_); refine HW_reg (fun K hK => ?_); simp (maxSteps := 2000000) (disch := omega) only [push_cast, ↓Int.cast_ofNat_Int, Nat.reduceBEq, Nat.reduceAdd, Nat.reduceLT, Nat.reduceEqDiff, reduceIte, reduceCtorEq, Nat.reduceLeDiff, Nat.reduceSub, List.reduceReplicate, Nat.reduceMul, Int.reduceToNat, Int.toNat_natCast, Nat.reducePow, reduceIte, cond_true', ltT, ltF, leT, leF, eqT, eqF, getD_map, wr64, toNat_succ, toNat_add]; refine hK _ ?_; clear hK K
        (repeat first | refine hseqQ_ret ?_ | refine hseqQ_exit ?_ | refine hblkQ_exit ?_ | refine hblkQ_other rfl ?_ | refine hblkQ_ret ?_ | refine hblkQ_normal ?_ | refine HW_seq ?_ | refine hseqQ_normal ?_ | refine HW_skip ?_ | refine HW_exit ?_ | refine HW_ret ?_)
        simp only [hfunQ_normal, hfunQ_ret, resH_nil, resH_cons, htup_one, htup_two, hlk_nil, hlk_cons, Nat.reduceEqDiff, reduceIte, reduceCtorEq]
        subst hR
        exact hres_vv (.inl ⟨by decide, rfl, rfl⟩)
    · rw [if_neg (fun h => c3 h.1)] at hR
      (repeat first | refine HW_seq ?_ | refine hseqQ_normal ?_ | refine HW_skip ?_ | refine hblkQ_normal ?_ | refine HW_block ?_); refine HW_drwR2 24 mixed (by kernel_rfl) (fun K hK K1 hK1 => ?_); simp (maxSteps := 2000000) (disch := omega) only [push_cast, ↓Int.cast_ofNat_Int, Nat.reduceBEq, Nat.reduceAdd, Nat.reduceLT, Nat.reduceEqDiff, reduceIte, reduceCtorEq, Nat.reduceLeDiff, Nat.reduceSub, List.reduceReplicate, Nat.reduceMul, Int.reduceToNat, Int.toNat_natCast, Nat.reducePow, reduceIte, cond_true', ltT, ltF, leT, leF, eqT, eqF, getD_map, wr64, toNat_succ, toNat_add, strs_len, strs_wid, strs_take, strs_drop]
      refine hK1 _ ?_; clear hK1 K1; with_reducible refine hstop ?_; simp (maxSteps := 2000000) (disch := omega) only [push_cast, ↓Int.cast_ofNat_Int, Nat.reduceBEq, Nat.reduceAdd, Nat.reduceLT, Nat.reduceEqDiff, reduceIte, reduceCtorEq, Nat.reduceLeDiff, Nat.reduceSub, List.reduceReplicate, Nat.reduceMul, Int.reduceToNat, Int.toNat_natCast, Nat.reducePow, reduceIte, cond_true', ltT, ltF, leT, leF, eqT, eqF, getD_map, wr64, toNat_succ, toNat_add]
      refine hK _ ?_; clear hK K
      refine HW_true rfl ?_
      (repeat first | refine HW_seq ?_ | refine hseqQ_normal ?_ | refine HW_skip ?_ | refine hblkQ_normal ?_ | refine HW_block ?_); refine HW_reg (fun K hK => ?_); simp (maxSteps := 2000000) (disch := omega) only [push_cast, ↓Int.cast_ofNat_Int, Nat.reduceBEq, Nat.reduceAdd, Nat.reduceLT, Nat.reduceEqDiff, reduceIte, reduceCtorEq, Nat.reduceLeDiff, Nat.reduceSub, List.reduceReplicate, Nat.reduceMul, Int.reduceToNat, Int.toNat_natCast, Nat.reducePow, reduceIte, cond_true', ltT, ltF, leT, leF, eqT, eqF, getD_map, wr64, toNat_succ, toNat_add]; refine hK _ ?_; clear hK K
      (repeat first | refine hseqQ_ret ?_ | refine hseqQ_exit ?_ | refine hblkQ_exit ?_ | refine hblkQ_other rfl ?_ | refine hblkQ_ret ?_ | refine hblkQ_normal ?_ | refine HW_seq ?_ | refine hseqQ_normal ?_ | refine HW_skip ?_ | refine HW_exit ?_ | refine HW_ret ?_)
      simp only [hfunQ_normal, hfunQ_ret, resH_nil, resH_cons, htup_one, htup_two, hlk_nil, hlk_cons, Nat.reduceEqDiff, reduceIte, reduceCtorEq]
      subst hR
      exact hres_vv (.inl ⟨by decide, rfl, rfl⟩)
  · have hne : i = H.length := by omega
    subst hne
    rw [List.drop_length, apF] at hR
    rw [List.drop_length] at hs
    (repeat first | refine HW_seq ?_ | refine hseqQ_normal ?_ | refine HW_skip ?_ | refine hblkQ_normal ?_ | refine HW_block ?_); refine HW_reg (fun K hK => ?_); simp (maxSteps := 2000000) (disch := omega) only [push_cast, ↓Int.cast_ofNat_Int, Nat.reduceBEq, Nat.reduceAdd, Nat.reduceLT, Nat.reduceEqDiff, reduceIte, reduceCtorEq, Nat.reduceLeDiff, Nat.reduceSub, List.reduceReplicate, Nat.reduceMul, Int.reduceToNat, Int.toNat_natCast, Nat.reducePow, reduceIte, cond_true', ltT, ltF, leT, leF, eqT, eqF, getD_map, wr64, toNat_succ, toNat_add]; refine hK _ ?_; clear hK K
    (repeat first | refine HW_seq ?_ | refine hseqQ_normal ?_ | refine HW_skip ?_ | refine hblkQ_normal ?_ | refine HW_block ?_)
    refine HW_false rfl ?_
    (repeat first | refine hseqQ_ret ?_ | refine hseqQ_exit ?_ | refine hblkQ_exit ?_ | refine hblkQ_other rfl ?_ | refine hblkQ_ret ?_ | refine hblkQ_normal ?_ | refine HW_seq ?_ | refine hseqQ_normal ?_ | refine HW_skip ?_ | refine HW_exit ?_ | refine HW_ret ?_)
    have hdl : (a.drop p).length = a.length - p := List.length_drop ..
    have e3 : (strs a).drop p = strs (a.drop p) := by simp [strs]
    have e4 : (strs a).take a.length = strs a := List.take_of_length_le (by rw [strs_len]; exact Nat.le_refl _)
    (repeat first | refine HW_seq ?_ | refine hseqQ_normal ?_ | refine HW_skip ?_ | refine hblkQ_normal ?_ | refine HW_block ?_); refine HW_reg (fun K hK => ?_); simp (maxSteps := 2000000) (disch := omega) only [push_cast, ↓Int.cast_ofNat_Int, Nat.reduceBEq, Nat.reduceAdd, Nat.reduceLT, Nat.reduceEqDiff, reduceIte, reduceCtorEq, Nat.reduceLeDiff, Nat.reduceSub, List.reduceReplicate, Nat.reduceMul, Int.reduceToNat, Int.toNat_natCast, Nat.reducePow, reduceIte, cond_true', ltT, ltF, leT, leF, eqT, eqF, getD_map, wr64, toNat_succ, toNat_add, strs_len, strs_wid, strs_take, strs_drop, e3, e4, strs_snoc2, hdl]; refine hK _ ?_; clear hK K
    (repeat first | refine hseqQ_ret ?_ | refine hseqQ_exit ?_ | refine hblkQ_exit ?_ | refine hblkQ_other rfl ?_ | refine hblkQ_ret ?_ | refine hblkQ_normal ?_ | refine HW_seq ?_ | refine hseqQ_normal ?_ | refine HW_skip ?_ | refine HW_exit ?_ | refine HW_ret ?_)
    simp only [hfunQ_normal, hfunQ_ret, resH_nil, resH_cons, htup_one, htup_two, hlk_nil, hlk_cons, Nat.reduceEqDiff, reduceIte, reduceCtorEq]
    subst hR
    exact hres_ov rfl (strs_fresh _) (.inr ⟨rfl, rfl, rfl⟩)
end Go.Proofs.Ytlfenddhppoflaa
