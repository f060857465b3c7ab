/-
  The walk of hunk.Between: the spans' row, the hunks' row, the second loop.
-/
import Derived.Test.YtlfenddhppoflaaKept
import Derived.Test.YtlfenddhppoflaaHnkM
import Derived.Test.YtlfenddhppoflaaCln
import Derived.Test.YtlfenddhppoflaaSl
set_option linter.unusedSimpArgs false
set_option linter.unusedVariables false
set_option maxRecDepth 20000
namespace Go.Proofs.Ytlfenddhppoflaa
open Go Go.Eng Go.RowKit Go.DiffM
attribute [local push_cast] ev_tmp ev_const ev_global ev_func evs_nil evs_cons stp_some stp_none dsts_nil dsts_cons argsE_nil argsE_cons intBin_add intBin_sub intBin_mul intBin_quo intBin_rem intBin_and intBin_or intBin_xor intBin_andNot intBin_eql intBin_neq intBin_lss intBin_leq intBin_gtr intBin_geq intBin_shl intBin_shr strBin_add strBin_eql strBin_neq strBin_lss strBin_leq strBin_gtr strBin_geq pureBin_int pureBin_str pureBin_beq pureBin_bne pureBin_peq pureBin_pne pureBin_seq pureBin_sne pureBin_agg effEq_eql effEq_neq pureUn_not pureUn_neg pureUn_xor pureConv_int pureConv_str pureField_eq pureIndexAddr_s pureIndexAddr_p pureIndex_s oInt_none oInt_some pureSlice_str pureSlice_sl pureB_len pureB_lens pureB_cap pureB_max pureB_min pureB_app pureB_copy po_move po_assign po_pick po_bin po_un po_conv po_field po_extract po_faddr po_iaddr po_index po_slice po_nil po_builtin po_call po_load po_store po_alloc po_box po_build po_buildS po_makeS eo_load eo_store eo_build eo_buildS eo_makeS eo_app eo_call eo_bin eq_load eq_build eq_call eq_bin parts_nil parts_cons outG_none outG_some dstOk_none dstOk_some out_eq outR_eq outOp_eq outQ_eq imm_load immQ_load imm_alloc imm_box imm_store imm_build imm_call imm_bin immQ_build immQ_call immQ_bin imm_buildS imm_makeS v2_nil v2_cons vq_nil vq_cons undef_eq
attribute [local push_cast] List.take_succ_cons List.take_zero List.drop_succ_cons List.drop_zero true_and and_true Option.isSome_some List.getElem?_cons_zero List.getElem?_cons_succ List.length_cons List.length_nil cond_true cond_false Int.toNat_natCast Nat.mul_one Nat.add_zero Nat.zero_add Addr.add_lit bne_self_eq_false beq_self_eq_true Bool.not_true Bool.not_false List.size_toArray Array.getD_eq_getD_getElem? List.getElem?_toArray Option.getD_some decide_true decide_false eq_self Bool.true_beq Bool.false_beq List.getD_cons_zero List.getD_cons_succ List.map_cons List.map_nil List.set_cons_zero List.set_cons_succ List.replicate_zero List.toList_toArray List.all_toArray List.all_cons List.all_nil Bool.and_self Bool.and_true Bool.true_and Bool.and_false Bool.false_and List.length_map List.length_append List.length_replicate List.length_set List.cons_append List.nil_append cond_triv Option.isSome_some Option.isSome_none beq_true beq_false Bool.not_false Option.map_some Bool.true_or Bool.false_or Bool.or_true Bool.or_false Bool.false_xor Bool.true_xor and_self beq_self_eq_true fv_default List.flatMap_cons List.flatMap_nil List.append_nil
attribute [local push_cast] lk_lo hlk_nil hlk_cons rlk_nil rlk_cons hev_tmp hev_const hev_global hev_func hevs_nil hevs_cons leaf_v leaf_none leaf_lst leaf_own leaf_ptr leaf_elt leaf_agg leaf_tup leaf_vw leaf_junk hPure_some hPure_none hop_eq heff_move heff_assign heff_pick heff_extract heff_field heff_faddr heff_nilc heff_iaddr heff_slice heff_load heff_store heff_alloc heff_box heff_build heff_buildS heff_makeS heff_len heff_app heff_callf heff_eql heff_neq heff_conv hMove_eq hPick_eq hExtract_eq hField_one hField_sub hFAddr_ptr hFAddr_elt hNil_ptr hNil_elt hIAddr_own hIAddr_lst hIAddr_ptr hIAddr_elt hIAddrR_eq hIAddrL_eq hIAddrP_eq hIAddrE_eq hLen_vw hSlice_own hSlice_vw hSliceR_eq hSliceV_eq rlen_sl hIAddr_vw hIAddrV_eq newsOf_vw hcells_vw hone_vw hkill_vw hren_vw hsub_vw ownIds_vw ownCell_vw hLen_own hLen_lst hLenR_hl hIAddrR_hl hLenR_eq hSlice_eq hSliceL_eq hLoad_ptr hLoad_elt hLoadR_sl hLoadR_sla hLoadR_bx hLoadR_bxa hLoadR_hl hLoadR_hla hStoreR_hl hStoreH_one hStoreH_agg hLoadE_one hLoadE_agg hStore_eq hStoreR_sl hStoreR_bx hStoreS_one hStoreS_agg hStoreB_one hStoreB_agg hAlloc_eq hBox_eq hBoxC_eq partsH_nil partsH_cons hfill_nil hfill_cons hBuild_eq hBuildF_eq hlit_nil hlit_cons hBuildS_eq allF_nil allF_cons hlitH_nil hlitH_cons hkl_eq hBuildSE_t hBuildSE_f hBuildSH_eq hBuildSF_eq hMake_eq newsOf_own newsOf_lst newsOf_nil hAppend_own newsH_own newsH_lst newsH_nil arr2_eq newsA_t newsA_f newsS_str hAppend_nil hAppR_hl hAppH_eq hAppR_eq hAppN_eq leafs_nil leafs_cons hEq_eq hEq_ptr hEq_elt hConv_str hConv_own hConv_lst hConvR_eq hConvL_eq bytesH_nil bytesH_cons hEqL_eq hCall_eq ats0_eq oneAll_eq hf_v hf_own hf_vw hf_ptr hf_lst hfs_nil hfs_cons fone_v fone_lst hone_v hone_lst hone_own hone_ptr fh_v fh_lst one_int hcellv_int one_bool hcellv_bool one_str hcellv_str one_slice hcellv_slice one_ptr hcellv_ptr hcells_agg hcells_lst hcells_own hcells_ptr splice_eq kill_eq row_eq set_some set_none rep_eq hrep_nil hrep_cons ekill_nil ekill_cons skill_nil skill_cons rkill_sl rkill_hl rkill_bx hkill_v hren_v hsub_v hkill_lst hren_lst hsub_lst hkill_elt hren_elt hsub_elt hkill_junk hren_junk hsub_junk hkill_own hkill_ptr hkill_agg hkill_tup hren_own hren_ptr hren_agg hren_tup hsub_own hsub_ptr hsub_agg hsub_tup rren_sl rren_hl rren_bx rsub_sl rsub_hl rsub_bx only_eq eight_eq sh_eq adds_eq radds_nil radds_cons rest_eq esub_nil esub_cons ssub_nil ssub_cons sset_nil sset_cons hG_none hG_some hGv_bool hGv_tup hgo_go hgo_call hgo_eqn hgo_bytes hgo_eq hgo1_eq hpre_move hpre_assign hpre_pick hpre_extract hpre_field hpre_faddr hpre_nilc hpre_iaddr hpre_slice hpre_load hpre_build hpre_bin hpre_un hpre_conv hpre_index hpre_call hpre_alloc hpre_box hpre_make hpre_store hpre_buildS ownsS_eq ownsR_sl ownsR_bx ownsP_eq ownIds_own ownIds_v ownIds_lst ownIds_agg ownCell_own ownCell_v ownCell_lst restAll_nil restAll_cons restOne_eq ownsR_hl hskip_eq hstep_yes hstep_no hstep_ask hv2_nil hv2_cons hgoq_go hgoq_call hgoq_eqn hgoq_eq hstepq_yes hstepq_no hstepq_ask hvq_nil hvq_cons slotX_tmp slotX_const slotX_global slotX_func slotsL_nil slotsL_cons slotsP_nil slotsP_cons slotO_some slotO_none slotsOf_move slotsOf_assign slotsOf_nilc slotsOf_pick slotsOf_extract slotsOf_field slotsOf_faddr slotsOf_load slotsOf_un slotsOf_conv slotsOf_iaddr slotsOf_index slotsOf_slice slotsOf_bin slotsOf_build slotsOf_buildS slotsOf_makeS slotsOf_call slotG_none slotG_some pickE_nil pickE_cons plainE_nil plainE_v plainE_lst plainE_agg hmade_eq made_buildS made_makeS quiet_buildS quiet_makeS hgor_go hgor_call hgor_eqn hgor_eq hstepr_yes hstepr_no hstepr_ask hvr_nil hvr_cons idOf_some idOf_none quiet_move quiet_assign quiet_pick quiet_extract quiet_field quiet_faddr quiet_nilc quiet_iaddr quiet_slice quiet_load quiet_build quiet_bin quiet_un quiet_conv quiet_index quiet_len quiet_min argsH_nil argsH_cons
attribute [local push_cast] bd53 bd95 fo29_0 fo29_1 fo95_0 fo95_1 fo95_2 fo95_3 kt29 kt3 kt95 pt53_0 pt53_1 pt53_2 pt95_0 pt95_1 pt95_2 pt95_3 se45 se93 us22 us23 us45 us93 zt29 zt53 zt95
def spE (s : Sp) : List FV := [.v (.int .i64 s.a0), .v (.int .i64 s.a1), .v (.int .i64 s.b0), .v (.int .i64 s.b1)]
def sps (l : List Sp) : List (List FV) := l.map spE
theorem sps_len (l : List Sp) : (sps l).length = l.length := by simp [sps]
theorem sps_wid (l : List Sp) : Wid 4 (sps l) = True := eq_true (wid_map l fun _ => rfl)
theorem sps_get {l : List Sp} {i : Nat} {d : List FV} (h : i < l.length) : (sps l).getD i d = [.v (.int .i64 l[i].a0), .v (.int .i64 l[i].a1), .v (.int .i64 l[i].b0), .v (.int .i64 l[i].b1)] := by unfold sps; rw [getD_map h]; rfl
theorem sps_last (l : List Sp) (s : Sp) {d : List FV} : (sps (l ++ [s])).getD l.length d = [.v (.int .i64 s.a0), .v (.int .i64 s.a1), .v (.int .i64 s.b0), .v (.int .i64 s.b1)] := by
  rw [sps_get (by simp)]; simp
theorem sps_set (l : List Sp) (s : Sp) (p q x y : Nat) : (sps (l ++ [s])).set l.length [.v (.int .i64 p), .v (.int .i64 q), .v (.int .i64 x), .v (.int .i64 y)] = sps (l ++ [⟨p, q, x, y⟩]) := by
  simp [sps, spE, List.set_append]
theorem sps_snoc (l : List Sp) (p q x y : Nat) : sps l ++ [[.v (.int .i64 p), .v (.int .i64 q), .v (.int .i64 x), .v (.int .i64 y)]] = sps (l ++ [⟨p, q, x, y⟩]) := by simp [sps, spE]
def hkE (fr : Bool) (h : Hk ByteArray) : List FV := [.v (.int .i64 h.at_), .lst fr (strs h.old), .lst fr (strs h.new)]
def hks (fr : Bool) (l : List (Hk ByteArray)) : List (List FV) := l.map (hkE fr)
theorem hks_len (fr : Bool) (l : List (Hk ByteArray)) : (hks fr l).length = l.length := by simp [hks]
theorem hks_wid (fr : Bool) (l : List (Hk ByteArray)) : Wid 3 (hks fr l) = True := eq_true (wid_map l fun _ => rfl)
theorem hks_get {fr : Bool} {l : List (Hk ByteArray)} {i : Nat} {d : List FV} (h : i < l.length) : (hks fr l).getD i d = [.v (.int .i64 l[i].at_), .lst fr (strs l[i].old), .lst fr (strs l[i].new)] := by unfold hks; rw [getD_map h]; rfl
theorem hks_snoc (fr : Bool) (l : List (Hk ByteArray)) (n : Nat) (x y : List ByteArray) : hks fr (l ++ [⟨n, x, y⟩]) = hks fr l ++ [[.v (.int .i64 n), .lst fr (strs x), .lst fr (strs y)]] := by simp [hks, hkE]
theorem hks_old (fr : Bool) (l : List (Hk ByteArray)) : olds (hks fr l) = hks false l := by
  simp only [olds, hks, List.map_map]
  apply List.map_congr_left
  intro h _
  simp only [Function.comp, hkE, List.map_cons, List.map_nil, fold_v, fold_lst, strs_old]
theorem hks_fresh (l : List (Hk ByteArray)) : ∀ x ∈ hks true l, ∀ f ∈ x, FreshF f := fun x hx f hf => by
  obtain ⟨h, -, rfl⟩ := List.mem_map.1 hx
  simp only [hkE, List.mem_cons, List.not_mem_nil, or_false] at hf
  rcases hf with rfl | rfl | rfl
  · exact .v _
  · exact .lst (strs_fresh _)
  · exact .lst (strs_fresh _)
/-- the spans' row, its last element apart -/
def spsH (l : List Sp) : List (List HV) := (sps l).map (List.map FV.h)
theorem spsH_eq (q : List Sp) (s : Sp) : (sps (q ++ [s])).map (List.map FV.h) = spsH q ++ [[.v (.int .i64 s.a0), .v (.int .i64 s.a1), .v (.int .i64 s.b0), .v (.int .i64 s.b1)]] := by simp [spsH, sps, spE, FV.h]
theorem spsH_len (q : List Sp) : (spsH q).length = q.length := by simp [spsH, sps]
theorem spsH_n (q : List Sp) (x : List HV) : (spsH q ++ [x]).length = q.length + 1 := by simp [spsH_len]
theorem spsH_get (q : List Sp) (x d : List HV) : (spsH q ++ [x]).getD q.length d = x := by
  rw [List.getD_eq_getElem?_getD, List.getElem?_append_right (by rw [spsH_len]; exact Nat.le_refl _), spsH_len, Nat.sub_self]; rfl
theorem spsH_set (q : List Sp) (x y : List HV) : (spsH q ++ [x]).set q.length y = spsH q ++ [y] := by
  rw [List.set_append_right _ _ (by rw [spsH_len]; exact Nat.le_refl _), spsH_len, Nat.sub_self]; rfl
abbrev rowS (l : List Sp) : Row := .sl true 95 4 (sps l)
abbrev rowH (l : List (Hk ByteArray)) : Row := .sl true 53 3 (hks true l)
/-- each span lies in both lists, with the lines around -/
theorem spans_in {α : Type} [DecidableEq α] (r : Nat) (a b : List α) : ∀ s ∈ spans (2 * r) a b, LocSp a b s ∧ min r s.a0 ≤ s.b0 ∧ s.b1 + min r (a.length - s.a1) ≤ b.length := by
  have end' : ∀ (s : Sp), LocSp a b s → a.drop s.a1 = b.drop s.b1 → s.b1 + min r (a.length - s.a1) ≤ b.length := fun s h e => by
    have := congrArg List.length e
    rw [List.length_drop, List.length_drop] at this
    have := h.lb
    omega
  have key : ∀ (l : List Sp) (s : Sp), min r s.a0 ≤ s.b0 → Sps (2 * r) a b (s :: l) → ∀ t ∈ s :: l, LocSp a b t ∧ min r t.a0 ≤ t.b0 ∧ t.b1 + min r (a.length - t.a1) ≤ b.length := by
    intro l
    induction l with
    | nil =>
      intro s h0 hs t ht
      obtain ⟨h1, h2⟩ := hs
      have : t = s := by simpa using ht
      subst this
      exact ⟨h1, h0, end' _ h1 h2⟩
    | cons u l ih =>
      intro s h0 hs t ht
      obtain ⟨h1, ⟨k1, k2, k3, k4⟩, h3, h4⟩ := hs
      have hu : LocSp a b u := by
        cases l with
        | nil => exact h4.1
        | cons v w => exact h4.1
      rcases List.mem_cons.1 ht with rfl | ht
      · refine ⟨h1, h0, ?_⟩
        have := hu.hb; have := hu.lb
        omega
      · exact ih u (by omega) h4 t ht
  intro s hs
  rcases spans_all (2 * r) a b with ⟨h, _⟩ | ⟨l, t, h, h1, h2, h3⟩
  · rw [h] at hs; cases hs
  · rw [h] at hs
    exact key t l (by omega) h3 s hs
/-- the hunk's own slice, made among heads -/
theorem made_hunk {o : Oper} {S : HS} {st : Store} {K : HS → Prop} {n : Int} {f g : Bool} {xs ys : List (List FV)} (ho : o.op = .buildSlice 45 1 #[(0, .tmp 155)]) (hd : o.dst = some 156) :
    HGoR Try.prog 160 o S ⟨[(155, .agg [.v (.int .i64 n), .lst f xs, .lst g ys])], st⟩ K = K (S.set (some 156) (.lst true [[.v (.int .i64 n), .lst f xs, .lst g ys]])) := by
  simp (maxSteps := 2000000) (disch := omega) only [push_cast, ↓Int.cast_ofNat_Int, Nat.reduceBEq, Nat.reduceAdd, Nat.reduceLT, Nat.reduceEqDiff, reduceIte, reduceCtorEq, Nat.reduceLeDiff, Nat.reduceSub, List.reduceReplicate, Nat.reduceMul, Int.reduceToNat, Int.toNat_natCast, Nat.reducePow, reduceIte, cond_true', ltT, ltF, leT, leF, eqT, eqF, getD_map, wr64, toNat_succ, toNat_add, ho, hd]
  try rfl
def tailC : Nat → Code → Code
  | 0, c => c
  | n + 1, .seq _ b => tailC n b
  | _, c => c
set_option maxHeartbeats 16000000 in
theorem between_T (a b : List ByteArray) (r : Nat) (SP : List Sp) (Q : HPost) (hA : a.length ≤ 400) (hB : b.length ≤ 400) (hr4 : r ≤ 400) (hSPl : SP.length ≤ 800)
    (hin : ∀ s ∈ SP, LocSp a b s ∧ min r s.a0 ≤ s.b0 ∧ s.b1 + min r (a.length - s.a1) ≤ b.length) (hbd : ∀ s ∈ SP, s.a0 ≤ 400 ∧ s.a1 ≤ 400 ∧ s.b0 ≤ 400 ∧ s.b1 ≤ 400)
    (hQ : Q .ret ⟨[(7, .v (.int .i64 0)), (6, .own 880), (159, .own 880), (17, .own 880)], [(880, rowH (SP.map (hunkOf a b r)))]⟩) :
    HW Try.prog 160 (tailC 8 (Try.f29.body.getD .skip)) Q ⟨[(0, .lst false (strs a)), (1, .lst false (strs b)), (2, .v (.int .i64 r)), (10, .own 280)], [(280, rowS SP)]⟩ := by
  unfold Try.f29
  dsimp only [Option.getD_some, tailC]
  (repeat first | refine HW_seq ?_ | refine hseqQ_normal ?_ | refine HW_skip ?_ | refine hblkQ_normal ?_ | refine HW_block ?_); refine HW_reg (fun K hK => ?_); simp (maxSteps := 2000000) (disch := omega) only [push_cast, ↓Int.cast_ofNat_Int, Nat.reduceBEq, Nat.reduceAdd, Nat.reduceLT, Nat.reduceEqDiff, reduceIte, reduceCtorEq, Nat.reduceLeDiff, Nat.reduceSub, List.reduceReplicate, Nat.reduceMul, Int.reduceToNat, Int.toNat_natCast, Nat.reducePow, reduceIte, cond_true', ltT, ltF, leT, leF, eqT, eqF, getD_map, wr64, toNat_succ, toNat_add]; refine hK _ ?_; clear hK K
  (repeat first | refine HW_seq ?_ | refine hseqQ_normal ?_ | refine HW_skip ?_ | refine hblkQ_normal ?_ | refine HW_block ?_); refine HW_reg (fun K hK => ?_); simp (maxSteps := 2000000) (disch := omega) only [push_cast, ↓Int.cast_ofNat_Int, Nat.reduceBEq, Nat.reduceAdd, Nat.reduceLT, Nat.reduceEqDiff, reduceIte, reduceCtorEq, Nat.reduceLeDiff, Nat.reduceSub, List.reduceReplicate, Nat.reduceMul, Int.reduceToNat, Int.toNat_natCast, Nat.reducePow, reduceIte, cond_true', ltT, ltF, leT, leF, eqT, eqF, getD_map, wr64, toNat_succ, toNat_add, sps_len]; refine hK _ ?_; clear hK K
  refine HW_keep [0, 1, 2, 17, 111, 112, 113] [280, 880] (by simp only [keep_eq, hkeep_nil, hkeep_cons, rkeep_nil, rkeep_cons, hlk_nil, hlk_cons, rlk_nil, rlk_cons, Nat.reduceEqDiff, reduceIte]; exact rfl) ?_
  (repeat first | refine HW_seq ?_ | refine hseqQ_normal ?_ | refine HW_skip ?_ | refine hblkQ_normal ?_ | refine HW_block ?_)
  refine HW_loop (fun m : Nat => ⟨[(0, .lst false (strs a)), (1, .lst false (strs b)), (2, .v (.int .i64 r)), (17, .own 880), (111, .own 280), (112, .v (.int .i64 SP.length)), (113, .v (.int .i64 m))], [(280, rowS SP), (880, rowH ((SP.take m).map (hunkOf a b r)))]⟩) (fun m => m ≤ SP.length) (fun m => SP.length - m) [0, 1, 2, 17, 111, 112, 113] [280, 880] 0 rfl (Nat.zero_le _) ?_
  intro m hm
  by_cases hml : m < SP.length
  · obtain ⟨s, hs⟩ : ∃ s, SP[m] = s := ⟨_, rfl⟩
    have hsm : s ∈ SP := hs ▸ List.getElem_mem hml
    obtain ⟨hL, k1, k2⟩ := hin s hsm
    obtain ⟨b1, b2, b3, b4⟩ := hbd s hsm
    obtain ⟨l1, l2, -, l3, l4, -⟩ := hL
    (repeat first | refine HW_seq ?_ | refine hseqQ_normal ?_ | refine HW_skip ?_ | refine hblkQ_normal ?_ | refine HW_block ?_); refine HW_reg (fun K hK => ?_); simp (maxSteps := 2000000) (disch := omega) only [push_cast, ↓Int.cast_ofNat_Int, Nat.reduceBEq, Nat.reduceAdd, Nat.reduceLT, Nat.reduceEqDiff, reduceIte, reduceCtorEq, Nat.reduceLeDiff, Nat.reduceSub, List.reduceReplicate, Nat.reduceMul, Int.reduceToNat, Int.toNat_natCast, Nat.reducePow, reduceIte, cond_true', ltT, ltF, leT, leF, eqT, eqF, getD_map, wr64, toNat_succ, toNat_add]; refine hK _ ?_; clear hK K
    (repeat first | refine HW_seq ?_ | refine hseqQ_normal ?_ | refine HW_skip ?_ | refine hblkQ_normal ?_ | refine HW_block ?_)
    refine HW_true rfl ?_
    (repeat first | refine hseqQ_ret ?_ | refine hseqQ_exit ?_ | refine hblkQ_exit ?_ | refine hblkQ_other rfl ?_ | refine hblkQ_ret ?_ | refine hblkQ_normal ?_ | refine HW_seq ?_ | refine hseqQ_normal ?_ | refine HW_skip ?_ | refine HW_exit ?_ | refine HW_ret ?_)
    (repeat first | refine HW_seq ?_ | refine hseqQ_normal ?_ | refine HW_skip ?_ | refine hblkQ_normal ?_ | refine HW_block ?_); refine HW_reg (fun K hK => ?_); simp (maxSteps := 2000000) (disch := omega) only [push_cast, ↓Int.cast_ofNat_Int, Nat.reduceBEq, Nat.reduceAdd, Nat.reduceLT, Nat.reduceEqDiff, reduceIte, reduceCtorEq, Nat.reduceLeDiff, Nat.reduceSub, List.reduceReplicate, Nat.reduceMul, Int.reduceToNat, Int.toNat_natCast, Nat.reducePow, reduceIte, cond_true', ltT, ltF, leT, leF, eqT, eqF, getD_map, wr64, toNat_succ, toNat_add, sps_len, sps_get hml, hs]; refine hK _ ?_; clear hK K
    refine HW_keep [0, 1, 2, 17, 19, 111, 112, 113] [152, 280, 880] (by simp only [keep_eq, hkeep_nil, hkeep_cons, rkeep_nil, rkeep_cons, hlk_nil, hlk_cons, rlk_nil, rlk_cons, Nat.reduceEqDiff, reduceIte]; exact rfl) ?_
    obtain ⟨mn, hmn⟩ : ∃ mn, mn = min r s.a0 := ⟨_, rfl⟩
    obtain ⟨mx, hmx⟩ : ∃ mx, mx = min r (a.length - s.a1) := ⟨_, rfl⟩
    have em1 : (if (s.a0 : Int) < (r : Int) then (s.a0 : Int) else (r : Int)) = (mn : Int) := by split <;> omega
    have em2 : (if (a.length : Int) - (s.a1 : Int) < (r : Int) then (a.length : Int) - (s.a1 : Int) else (r : Int)) = (mx : Int) := by split <;> omega
    obtain ⟨lo, hlo⟩ : ∃ x, x = s.a0 - mn := ⟨_, rfl⟩
    obtain ⟨hi, hhi⟩ : ∃ x, x = s.a1 + mx := ⟨_, rfl⟩
    obtain ⟨lo2, hlo2⟩ : ∃ x, x = s.b0 - mn := ⟨_, rfl⟩
    obtain ⟨hi2, hhi2⟩ : ∃ x, x = s.b1 + mx := ⟨_, rfl⟩
    have el1 : (s.a0 : Int) - (mn : Int) = (lo : Int) := by omega
    have el2 : (s.a1 : Int) + (mx : Int) = (hi : Int) := by omega
    have el3 : (s.b0 : Int) - (mn : Int) = (lo2 : Int) := by omega
    have el4 : (s.b1 : Int) + (mx : Int) = (hi2 : Int) := by omega
    have hhk : hunkOf a b r s = ⟨lo, (a.take hi).drop lo, (b.take hi2).drop lo2⟩ := by simp only [hunkOf, ← hmn, ← hmx, ← hlo, ← hhi, ← hlo2, ← hhi2]
    rw [← hmn] at k1
    rw [← hmx] at k2
    have q1 : lo ≤ hi ∧ hi ≤ a.length := by omega
    have q2 : lo2 ≤ hi2 ∧ hi2 ≤ b.length := by omega
    have c1 := clone_H ((a.take hi).drop lo) (by rw [List.length_drop, List.length_take]; omega)
    have c2 := clone_H ((b.take hi2).drop lo2) (by rw [List.length_drop, List.length_take]; omega)
    (repeat first | refine HW_seq ?_ | refine hseqQ_normal ?_ | refine HW_skip ?_ | refine hblkQ_normal ?_ | refine HW_block ?_); refine HW_drw 13 mixed (by kernel_rfl) (fun K hK => ?_); simp (maxSteps := 2000000) (disch := omega) only [push_cast, ↓Int.cast_ofNat_Int, Nat.reduceBEq, Nat.reduceAdd, Nat.reduceLT, Nat.reduceEqDiff, reduceIte, reduceCtorEq, Nat.reduceLeDiff, Nat.reduceSub, List.reduceReplicate, Nat.reduceMul, Int.reduceToNat, Int.toNat_natCast, Nat.reducePow, reduceIte, cond_true', ltT, ltF, leT, leF, eqT, eqF, getD_map, wr64, toNat_succ, toNat_add, strs_len]
    rw [em1, em2]
    with_reducible refine hstop ?_; simp (maxSteps := 2000000) (disch := omega) only [push_cast, ↓Int.cast_ofNat_Int, Nat.reduceBEq, Nat.reduceAdd, Nat.reduceLT, Nat.reduceEqDiff, reduceIte, reduceCtorEq, Nat.reduceLeDiff, Nat.reduceSub, List.reduceReplicate, Nat.reduceMul, Int.reduceToNat, Int.toNat_natCast, Nat.reducePow, reduceIte, cond_true', ltT, ltF, leT, leF, eqT, eqF, getD_map, wr64, toNat_succ, toNat_add, strs_len]
    refine hK _ ?_; clear hK K
    refine HW_keep [0, 1, 2, 17, 19, 20, 21, 111, 112, 113] [152, 280, 880] (by simp only [keep_eq, hkeep_nil, hkeep_cons, rkeep_nil, rkeep_cons, hlk_nil, hlk_cons, rlk_nil, rlk_cons, Nat.reduceEqDiff, reduceIte]; exact rfl) ?_
    (repeat first | refine HW_seq ?_ | refine hseqQ_normal ?_ | refine HW_skip ?_ | refine hblkQ_normal ?_ | refine HW_block ?_); refine HW_drwR2 29 mixed (by kernel_rfl) (fun K hK K1 hK1 => ?_); simp (maxSteps := 2000000) (disch := omega) only [push_cast, ↓Int.cast_ofNat_Int, Nat.reduceBEq, Nat.reduceAdd, Nat.reduceLT, Nat.reduceEqDiff, reduceIte, reduceCtorEq, Nat.reduceLeDiff, Nat.reduceSub, List.reduceReplicate, Nat.reduceMul, Int.reduceToNat, Int.toNat_natCast, Nat.reducePow, reduceIte, cond_true', ltT, ltF, leT, leF, eqT, eqF, getD_map, wr64, toNat_succ, toNat_add, el1, el2, el3, el4, strs_len, strs_wid, strs_take, strs_drop]
    refine hatRo cl58 c1 (.cons (lendL (strs_old _)) .nil) ?_
    with_reducible refine hstop ?_; simp (maxSteps := 2000000) (disch := omega) only [push_cast, ↓Int.cast_ofNat_Int, Nat.reduceBEq, Nat.reduceAdd, Nat.reduceLT, Nat.reduceEqDiff, reduceIte, reduceCtorEq, Nat.reduceLeDiff, Nat.reduceSub, List.reduceReplicate, Nat.reduceMul, Int.reduceToNat, Int.toNat_natCast, Nat.reducePow, reduceIte, cond_true', ltT, ltF, leT, leF, eqT, eqF, getD_map, wr64, toNat_succ, toNat_add, el1, el2, el3, el4, strs_len, strs_wid, strs_take, strs_drop]
    refine hatRo cl58 c2 (.cons (lendL (strs_old _)) .nil) ?_
    clear c1 c2
    with_reducible refine hstop ?_; simp (maxSteps := 2000000) (disch := omega) only [push_cast, ↓Int.cast_ofNat_Int, Nat.reduceBEq, Nat.reduceAdd, Nat.reduceLT, Nat.reduceEqDiff, reduceIte, reduceCtorEq, Nat.reduceLeDiff, Nat.reduceSub, List.reduceReplicate, Nat.reduceMul, Int.reduceToNat, Int.toNat_natCast, Nat.reducePow, reduceIte, cond_true', ltT, ltF, leT, leF, eqT, eqF, getD_map, wr64, toNat_succ, toNat_add, strs_len]
    clear em1 em2 el1 el2 el3 el4 hmn hmx hlo hhi hlo2 hhi2 k1 k2 b1 b2 b3 b4 l1 l2 l3 l4 q1 q2
    have hlen : ((SP.take m).map (hunkOf a b r)).length = m := by rw [List.length_map, List.length_take]; omega
    refine hK1 _ ?_; clear hK1 K1; with_reducible refine hstop ?_; simp (maxSteps := 2000000) (disch := omega) only [push_cast, ↓Int.cast_ofNat_Int, Nat.reduceBEq, Nat.reduceAdd, Nat.reduceLT, Nat.reduceEqDiff, reduceIte, reduceCtorEq, Nat.reduceLeDiff, Nat.reduceSub, List.reduceReplicate, Nat.reduceMul, Int.reduceToNat, Int.toNat_natCast, Nat.reducePow, reduceIte, cond_true', ltT, ltF, leT, leF, eqT, eqF, getD_map, wr64, toNat_succ, toNat_add, hks_len, hlen]
    refine ⟨by intro x hx; simp at hx; subst hx; rfl, ?_⟩
    refine hK _ ?_; clear hK K
    (repeat first | refine hseqQ_ret ?_ | refine hseqQ_exit ?_ | refine hblkQ_exit ?_ | refine hblkQ_other rfl ?_ | refine hblkQ_ret ?_ | refine hblkQ_normal ?_ | refine HW_seq ?_ | refine hseqQ_normal ?_ | refine HW_skip ?_ | refine HW_exit ?_ | refine HW_ret ?_)
    (repeat first | refine HW_seq ?_ | refine hseqQ_normal ?_ | refine HW_skip ?_ | refine hblkQ_normal ?_ | refine HW_block ?_); refine HW_reg (fun K hK => ?_); simp (maxSteps := 2000000) (disch := omega) only [push_cast, ↓Int.cast_ofNat_Int, Nat.reduceBEq, Nat.reduceAdd, Nat.reduceLT, Nat.reduceEqDiff, reduceIte, reduceCtorEq, Nat.reduceLeDiff, Nat.reduceSub, List.reduceReplicate, Nat.reduceMul, Int.reduceToNat, Int.toNat_natCast, Nat.reducePow, reduceIte, cond_true', ltT, ltF, leT, leF, eqT, eqF, getD_map, wr64, toNat_succ, toNat_add]; refine hK _ ?_; clear hK K
    (repeat first | refine hseqQ_ret ?_ | refine hseqQ_exit ?_ | refine hblkQ_exit ?_ | refine hblkQ_other rfl ?_ | refine hblkQ_ret ?_ | refine hblkQ_normal ?_ | refine HW_seq ?_ | refine hseqQ_normal ?_ | refine HW_skip ?_ | refine HW_exit ?_ | refine HW_ret ?_)
    refine ⟨m + 1, ?_, hml, by omega⟩
    simp only [keep_eq, hkeep_nil, hkeep_cons, rkeep_nil, rkeep_cons, hlk_nil, hlk_cons, rlk_nil, rlk_cons, Nat.reduceEqDiff, reduceIte]
    rw [List.take_succ_eq_append_getElem hml, hs, List.map_append, List.map_singleton, hhk]
    simp only [rowH, hks_snoc]
    exact rfl
  · have hne : m = SP.length := by omega
    subst hne
    (repeat first | refine HW_seq ?_ | refine hseqQ_normal ?_ | refine HW_skip ?_ | refine hblkQ_normal ?_ | refine HW_block ?_); refine HW_reg (fun K hK => ?_); simp (maxSteps := 2000000) (disch := omega) only [push_cast, ↓Int.cast_ofNat_Int, Nat.reduceBEq, Nat.reduceAdd, Nat.reduceLT, Nat.reduceEqDiff, reduceIte, reduceCtorEq, Nat.reduceLeDiff, Nat.reduceSub, List.reduceReplicate, Nat.reduceMul, Int.reduceToNat, Int.toNat_natCast, Nat.reducePow, reduceIte, cond_true', ltT, ltF, leT, leF, eqT, eqF, getD_map, wr64, toNat_succ, toNat_add]; refine hK _ ?_; clear hK K
    (repeat first | refine HW_seq ?_ | refine hseqQ_normal ?_ | refine HW_skip ?_ | refine hblkQ_normal ?_ | refine HW_block ?_)
    refine HW_false rfl ?_
    (repeat first | refine hseqQ_ret ?_ | refine hseqQ_exit ?_ | refine hblkQ_exit ?_ | refine hblkQ_other rfl ?_ | refine hblkQ_ret ?_ | refine hblkQ_normal ?_ | refine HW_seq ?_ | refine hseqQ_normal ?_ | refine HW_skip ?_ | refine HW_exit ?_ | refine HW_ret ?_)
    (repeat first | refine HW_seq ?_ | refine hseqQ_normal ?_ | refine HW_skip ?_ | refine hblkQ_normal ?_ | refine HW_block ?_); refine HW_reg (fun K hK => ?_); simp (maxSteps := 2000000) (disch := omega) only [push_cast, ↓Int.cast_ofNat_Int, Nat.reduceBEq, Nat.reduceAdd, Nat.reduceLT, Nat.reduceEqDiff, reduceIte, reduceCtorEq, Nat.reduceLeDiff, Nat.reduceSub, List.reduceReplicate, Nat.reduceMul, Int.reduceToNat, Int.toNat_natCast, Nat.reducePow, reduceIte, cond_true', ltT, ltF, leT, leF, eqT, eqF, getD_map, wr64, toNat_succ, toNat_add]; refine hK _ ?_; clear hK K
    (repeat first | refine HW_seq ?_ | refine hseqQ_normal ?_ | refine HW_skip ?_ | refine hblkQ_normal ?_ | refine HW_block ?_)
    refine HW_keep [7, 6, 159, 17] [880] (by simp only [keep_eq, hkeep_nil, hkeep_cons, rkeep_nil, rkeep_cons, hlk_nil, hlk_cons, rlk_nil, rlk_cons, Nat.reduceEqDiff, reduceIte]; exact rfl) ?_
    (repeat first | refine hseqQ_ret ?_ | refine hseqQ_exit ?_ | refine hblkQ_exit ?_ | refine hblkQ_other rfl ?_ | refine hblkQ_ret ?_ | refine hblkQ_normal ?_ | refine HW_seq ?_ | refine hseqQ_normal ?_ | refine HW_skip ?_ | refine HW_exit ?_ | refine HW_ret ?_)
    rw [List.take_length]
    exact hQ
end Go.Proofs.Ytlfenddhppoflaa
