/-
  The law DiffMakes.
-/
import Derived.Test.YtlfenddhppoflaaSame
import Derived.Test.YtlfenddhppoflaaDiffL
set_option linter.unusedSimpArgs false
set_option linter.unusedVariables false
set_option maxRecDepth 20000
namespace Go.Proofs.Ytlfenddhppoflaa
open Go Go.Eng Go.RowKit Go.DiffM
attribute [local push_cast] lk_nil lk_cons ev_tmp ev_const ev_global ev_func evs_nil evs_cons stp_some stp_none dsts_nil dsts_cons argsE_nil argsE_cons intBin_add intBin_sub intBin_mul intBin_quo intBin_rem intBin_and intBin_or intBin_xor intBin_andNot intBin_eql intBin_neq intBin_lss intBin_leq intBin_gtr intBin_geq intBin_shl intBin_shr strBin_add strBin_eql strBin_neq strBin_lss strBin_leq strBin_gtr strBin_geq pureBin_int pureBin_str pureBin_beq pureBin_bne pureBin_peq pureBin_pne pureBin_seq pureBin_sne pureBin_agg effEq_eql effEq_neq pureUn_not pureUn_neg pureUn_xor pureConv_int pureConv_str pureField_eq pureIndexAddr_s pureIndexAddr_p pureIndex_s oInt_none oInt_some pureSlice_str pureSlice_sl pureB_len pureB_lens pureB_cap pureB_max pureB_min pureB_app pureB_copy po_move po_assign po_pick po_bin po_un po_conv po_field po_extract po_faddr po_iaddr po_index po_slice po_nil po_builtin po_call po_load po_store po_alloc po_box po_build po_buildS po_makeS eo_load eo_store eo_build eo_buildS eo_makeS eo_app eo_call eo_bin eq_load eq_build eq_call eq_bin parts_nil parts_cons outG_none outG_some dstOk_none dstOk_some out_eq outR_eq outOp_eq outQ_eq imm_load immQ_load imm_alloc imm_box imm_store imm_build imm_call imm_bin immQ_build immQ_call immQ_bin imm_buildS imm_makeS v2_nil v2_cons vq_nil vq_cons undef_eq
attribute [local push_cast] List.take_succ_cons List.take_zero List.drop_succ_cons List.drop_zero true_and and_true Option.isSome_some List.getElem?_cons_zero List.getElem?_cons_succ List.length_cons List.length_nil cond_true cond_false Int.toNat_natCast Nat.mul_one Nat.add_zero Nat.zero_add Addr.add_lit bne_self_eq_false beq_self_eq_true Bool.not_true Bool.not_false List.size_toArray Array.getD_eq_getD_getElem? List.getElem?_toArray Option.getD_some decide_true decide_false eq_self Bool.true_beq Bool.false_beq
set_option maxHeartbeats 1000000 in
theorem makes_calls (w0 : World) (va vb : Value) (a b : List ByteArray) (ha : SlS w0 va a) (hb : SlS w0 vb b) :
    Calls Try.prog 3 #[va, vb] w0 (Ret fun r w' => r = .bool true ∧ Below w0.heap.size w0 w') := by
  refine calls_W (args := [_, _]) Try.func3 rfl Try.ntmps3 Try.results3 (by simp) ?_
  have ha0 := ha
  have hb0 := hb
  obtain ⟨aa, ca, rfl, ha1, ha2, ha3⟩ := ha
  obtain ⟨ab, cb, rfl, hb1, hb2, hb3⟩ := hb
  (repeat first | refine W_seq ?_ | refine seqQ_normal ?_ | refine W_skip ?_ | refine blkQ_normal ?_); refine W_reg (fun K hK => ?_); simp only [push_cast, Nat.reduceBEq, Nat.reduceAdd, Nat.reduceLT, Nat.reduceEqDiff, reduceIte, reduceCtorEq, Nat.reduceLeDiff, Nat.reduceSub]; refine hK _ _ ?_; clear hK K
  (repeat first | refine W_seq ?_ | refine seqQ_normal ?_ | refine W_skip ?_ | refine blkQ_normal ?_); refine W_reg (fun K hK => ?_); simp only [push_cast, Nat.reduceBEq, Nat.reduceAdd, Nat.reduceLT, Nat.reduceEqDiff, reduceIte, reduceCtorEq, Nat.reduceLeDiff, Nat.reduceSub]
  refine ⟨cl20, Ret.mono (script_calls w0 _ _ a b ha0 hb0) ?_⟩
  rintro r w1 ⟨hB, hr⟩
  rcases hr with ⟨hlim, rfl⟩ | ⟨hla, hlb, v, rfl, hE⟩
  · refine v2s ?_; try simp only [push_cast, Nat.reduceBEq, Nat.reduceAdd, Nat.reduceLT, Nat.reduceEqDiff, reduceIte, reduceCtorEq, Nat.reduceLeDiff, Nat.reduceSub]
    refine hK _ _ ?_; clear hK K
    (repeat first | refine W_seq ?_ | refine seqQ_normal ?_ | refine W_skip ?_ | refine blkQ_normal ?_); refine W_reg (fun K hK => ?_); simp only [push_cast, Nat.reduceBEq, Nat.reduceAdd, Nat.reduceLT, Nat.reduceEqDiff, reduceIte, reduceCtorEq, Nat.reduceLeDiff, Nat.reduceSub]
    refine ⟨cl21, Ret.mono (awake_calls w1) ?_⟩
    rintro _ w2 ⟨rfl, hb2⟩
    have hB := hB.trans (hb2.mono hB.size)
    have q1 : decide ((4 : Int) = 0) = false := rfl
    refine v2s ?_; try simp only [push_cast, Nat.reduceBEq, Nat.reduceAdd, Nat.reduceLT, Nat.reduceEqDiff, reduceIte, reduceCtorEq, Nat.reduceLeDiff, Nat.reduceSub, q1]
    refine hK _ _ ?_; clear hK K
    (repeat first | refine W_seq ?_ | refine seqQ_normal ?_ | refine W_skip ?_ | refine blkQ_normal ?_)
    refine W_true rfl ?_
    (repeat first | refine W_seq ?_ | refine seqQ_normal ?_ | refine W_skip ?_ | refine blkQ_normal ?_); refine W_reg (fun K hK => ?_); simp only [push_cast, Nat.reduceBEq, Nat.reduceAdd, Nat.reduceLT, Nat.reduceEqDiff, reduceIte, reduceCtorEq, Nat.reduceLeDiff, Nat.reduceSub]
    refine ⟨cl21, Ret.mono (awake_calls w2) ?_⟩
    rintro _ w3 ⟨rfl, hb3⟩
    have hB := hB.trans (hb3.mono hB.size)
    have q2 : decide ((4 : Int) = 4) = true := rfl
    have q3 : decide ((0 : Int) = 0) = true := rfl
    refine v2s ?_; try simp only [push_cast, Nat.reduceBEq, Nat.reduceAdd, Nat.reduceLT, Nat.reduceEqDiff, reduceIte, reduceCtorEq, Nat.reduceLeDiff, Nat.reduceSub, q2, q3, us23]
    refine hK _ _ ?_; clear hK K
    (repeat first | refine seqQ_ret ?_ | refine seqQ_exit ?_ | refine blkQ_exit ?_ | refine blkQ_other rfl ?_ | refine blkQ_ret ?_ | refine blkQ_normal ?_ | refine W_seq ?_ | refine seqQ_normal ?_ | refine W_skip ?_ | refine W_exit ?_ | refine W_ret ?_)
    simp only [funQ, resE, tup, lk, Nat.reduceEqDiff, reduceIte, reduceCtorEq]
    exact ⟨trivial, hB⟩
  refine v2s ?_; try simp only [push_cast, Nat.reduceBEq, Nat.reduceAdd, Nat.reduceLT, Nat.reduceEqDiff, reduceIte, reduceCtorEq, Nat.reduceLeDiff, Nat.reduceSub]
  refine hK _ _ ?_; clear hK K
  (repeat first | refine W_seq ?_ | refine seqQ_normal ?_ | refine W_skip ?_ | refine blkQ_normal ?_); refine W_reg (fun K hK => ?_); simp only [push_cast, Nat.reduceBEq, Nat.reduceAdd, Nat.reduceLT, Nat.reduceEqDiff, reduceIte, reduceCtorEq, Nat.reduceLeDiff, Nat.reduceSub]
  refine ⟨cl21, Ret.mono (awake_calls w1) ?_⟩
  rintro _ w2 ⟨rfl, hb2⟩
  have hE := Own.up hE hb2
  have hB := hB.trans (hb2.mono hB.size)
  have q0 : decide ((0 : Int) = 0) = true := rfl
  refine v2s ?_; try simp only [push_cast, Nat.reduceBEq, Nat.reduceAdd, Nat.reduceLT, Nat.reduceEqDiff, reduceIte, reduceCtorEq, Nat.reduceLeDiff, Nat.reduceSub, q0]
  refine hK _ _ ?_; clear hK K
  (repeat first | refine W_seq ?_ | refine seqQ_normal ?_ | refine W_skip ?_ | refine blkQ_normal ?_)
  refine W_false rfl ?_
  obtain ⟨sd, cs, rfl, hcell⟩ := Own.form hE
  clear hE
  obtain ⟨hfine, hexp⟩ := script_fine a b
  obtain ⟨hslen, hcnt⟩ := script_len a b
  generalize script a b = l at *
  (repeat first | refine W_seq ?_ | refine seqQ_normal ?_ | refine W_skip ?_ | refine blkQ_normal ?_); refine W_reg (fun K hK => ?_); simp only [push_cast, Nat.reduceBEq, Nat.reduceAdd, Nat.reduceLT, Nat.reduceEqDiff, reduceIte, reduceCtorEq, Nat.reduceLeDiff, Nat.reduceSub]; refine hK _ _ ?_; clear hK K
  (repeat first | refine W_seq ?_ | refine seqQ_normal ?_ | refine W_skip ?_ | refine blkQ_normal ?_); refine W_reg (fun K hK => ?_); simp only [push_cast, Nat.reduceBEq, Nat.reduceAdd, Nat.reduceLT, Nat.reduceEqDiff, reduceIte, reduceCtorEq, Nat.reduceLeDiff, Nat.reduceSub]; refine hK _ _ ?_; clear hK K
  (repeat first | refine W_seq ?_ | refine seqQ_normal ?_ | refine W_skip ?_ | refine blkQ_normal ?_); refine W_reg (fun K hK => ?_); simp only [push_cast, Nat.reduceBEq, Nat.reduceAdd, Nat.reduceLT, Nat.reduceEqDiff, reduceIte, reduceCtorEq, Nat.reduceLeDiff, Nat.reduceSub]; refine hK _ _ ?_; clear hK K
  have hsh : ∃ bs, (0 < l.length → sd = some ⟨bs, 0, none⟩) ∧ ∀ k (hk : k < l.length), w2.cell? ⟨bs, k * 2, none⟩ = some (.int .i64 (l[k].1 : Nat)) ∧ w2.cell? ⟨bs, k * 2 + 1, none⟩ = some (.int .i64 (l[k].2 : Nat)) := by
    by_cases h0 : 0 < l.length
    · obtain ⟨g, rfl, -, -, hc⟩ := hcell h0
      exact ⟨g, fun _ => rfl, fun k hk => ⟨hc _ _ (eCells_one l k hk).1, hc _ _ (eCells_one l k hk).2⟩⟩
    · exact ⟨0, fun h => absurd h h0, fun k hk => absurd hk (by omega)⟩
  obtain ⟨bs, hsd, hcl⟩ := hsh
  clear hcell
  (repeat first | refine W_seq ?_ | refine seqQ_normal ?_ | refine W_skip ?_ | refine blkQ_normal ?_)
  refine W_block ?_
  refine W_loop (fun x : Nat × Nat × Nat × Int => [(0, .slice aa a.length ca), (1, .slice ab b.length cb), (5, .slice sd l.length cs), (7, .int .i64 x.2.1), (8, .int .i64 x.2.2.1), (9, .int .i64 x.2.2.2), (10, .int .i64 x.1)])
    (fun x w => x.1 ≤ l.length ∧ x.2.1 ≤ a.length ∧ x.2.2.1 ≤ b.length ∧ expand (l.drop x.1) = steps (a.drop x.2.1) (b.drop x.2.2.1) ∧ (∀ h : x.1 < l.length, (l[x.1].1 : Int) ≠ x.2.2.2) ∧ Below w2.heap.size w2 w) (fun x => l.length - x.1) [0, 1, 5, 7, 8, 9, 10] (0, 0, 0, -1) rfl
    ⟨Nat.zero_le _, Nat.zero_le _, Nat.zero_le _, hexp, fun h => by show (l[0].1 : Int) ≠ -1; omega, Below.refl _ _⟩ ?_
  rintro ⟨n, i, j, last⟩ w ⟨hn, hi, hj, hx, hlast, hBw⟩
  simp only at hn hi hj hx hlast
  (repeat first | refine W_seq ?_ | refine seqQ_normal ?_ | refine W_skip ?_ | refine blkQ_normal ?_); refine W_reg (fun K hK => ?_); simp only [push_cast, Nat.reduceBEq, Nat.reduceAdd, Nat.reduceLT, Nat.reduceEqDiff, reduceIte, reduceCtorEq, Nat.reduceLeDiff, Nat.reduceSub, us23]; refine hK _ _ ?_; clear hK K
  (repeat first | refine W_seq ?_ | refine seqQ_normal ?_ | refine W_skip ?_ | refine blkQ_normal ?_)
  refine W_cond rfl (fun hlt => ?_) (fun hge => ?_)
  · have hnl : n < l.length := by simpa using hlt
    obtain rfl := hsd (by omega)
    (repeat first | refine W_seq ?_ | refine seqQ_normal ?_ | refine W_skip ?_ | refine blkQ_normal ?_)
    refine W_block ?_
    have c0 := below_cell hBw (hcl n hnl).1
    have c1 := below_cell hBw (hcl n hnl).2
    rw [List.drop_eq_getElem_cons hnl, expand_cons] at hx
    have hc1 : 1 ≤ l[n].2 := by
      have := Fine.drop hfine n
      rw [List.drop_eq_getElem_cons hnl] at this
      exact this.head
    have hop : l[n].1 ≤ 2 := by
      obtain ⟨c, hc⟩ : ∃ c, l[n].2 = c + 1 := ⟨l[n].2 - 1, by omega⟩
      rw [hc, List.replicate_succ, List.cons_append] at hx
      rcases steps_inv a b i j _ _ hx.symm with ⟨h, _⟩ | ⟨h, _⟩ | ⟨h, _⟩ <;> omega
    have hcb := hcnt n hnl
    have hla1 := hlast hnl
    have hnext : ∀ h : n + 1 < l.length, (l[n + 1].1 : Int) ≠ (l[n].1 : Int) := fun h e => hfine.next n h (by omega)
    generalize hop' : l[n].1 = op at *
    generalize hcc' : l[n].2 = c at *
    have bn : (0 : Int) ≤ n ∧ (n : Int) < l.length := by omega
    have d1 : decide ((c : Int) < 1) = false := by rw [decide_eq_false_iff_not]; omega
    have d2 : decide ((op : Int) = last) = false := by simpa using hla1
    have d3 : decide ((op : Int) < 0) = false := by rw [decide_eq_false_iff_not]; omega
    have d4 : decide ((2 : Int) < (op : Int)) = false := by rw [decide_eq_false_iff_not]; omega
    (repeat first | refine W_seq ?_ | refine seqQ_normal ?_ | refine W_skip ?_ | refine blkQ_normal ?_); refine W_reg (fun K hK => ?_); simp only [push_cast, Nat.reduceBEq, Nat.reduceAdd, Nat.reduceLT, Nat.reduceEqDiff, reduceIte, reduceCtorEq, Nat.reduceLeDiff, Nat.reduceSub, us23, bn, c0, c1, d1, d2, d3, d4, fo290, fo291, kt3]; refine hK _ _ ?_; clear hK K
    (repeat first | refine W_seq ?_ | refine seqQ_normal ?_ | refine W_skip ?_ | refine blkQ_normal ?_)
    refine W_false rfl ?_
    refine W_kept (l' := _) [0, 1, 5, 7, 8, 9, 10] (by simp only [keep, lk, Nat.reduceEqDiff, reduceIte]; exact rfl) ?_
    (repeat first | refine W_seq ?_ | refine seqQ_normal ?_ | refine W_skip ?_ | refine blkQ_normal ?_); refine W_reg (fun K hK => ?_); simp only [push_cast, Nat.reduceBEq, Nat.reduceAdd, Nat.reduceLT, Nat.reduceEqDiff, reduceIte, reduceCtorEq, Nat.reduceLeDiff, Nat.reduceSub, us23, bn, c0, fo290, kt3]; refine hK _ _ ?_; clear hK K
    (repeat first | refine W_seq ?_ | refine seqQ_normal ?_ | refine W_skip ?_ | refine blkQ_normal ?_); refine W_reg (fun K hK => ?_); simp only [push_cast, Nat.reduceBEq, Nat.reduceAdd, Nat.reduceLT, Nat.reduceEqDiff, reduceIte, reduceCtorEq, Nat.reduceLeDiff, Nat.reduceSub]; refine hK _ _ ?_; clear hK K
    refine W_kept (l' := _) [0, 1, 5, 7, 8, 9, 10, 11] (by simp only [keep, lk, Nat.reduceEqDiff, reduceIte]; exact rfl) ?_
    (repeat first | refine W_seq ?_ | refine seqQ_normal ?_ | refine W_skip ?_ | refine blkQ_normal ?_)
    refine W_block ?_
    refine W_loop (fun x : Nat × Nat × Nat => [(0, .slice aa a.length ca), (1, .slice ab b.length cb), (5, .slice (some ⟨bs, 0, none⟩) l.length cs), (7, .int .i64 x.2.1), (8, .int .i64 x.2.2), (9, .int .i64 op), (10, .int .i64 n), (11, .int .i64 x.1)])
      (fun x w => x.1 ≤ c ∧ x.2.1 ≤ a.length ∧ x.2.2 ≤ b.length ∧ List.replicate (c - x.1) op ++ expand (l.drop (n + 1)) = steps (a.drop x.2.1) (b.drop x.2.2) ∧ Below w2.heap.size w2 w) (fun x => c - x.1) [0, 1, 5, 7, 8, 9, 10, 11] (0, i, j) rfl
      ⟨Nat.zero_le _, hi, hj, hx, hBw⟩ ?_
    clear hBw hx hi hj c0 c1 d1 d2 d3 d4 hlast hla1
    rintro ⟨k, p, q⟩ w ⟨hk, hi, hj, hx, hBw⟩
    simp only at hk hi hj hx
    have c1 := below_cell hBw (hcl n hnl).2
    rw [hcc'] at c1
    (repeat first | refine W_seq ?_ | refine seqQ_normal ?_ | refine W_skip ?_ | refine blkQ_normal ?_); refine W_reg (fun K hK => ?_); simp only [push_cast, Nat.reduceBEq, Nat.reduceAdd, Nat.reduceLT, Nat.reduceEqDiff, reduceIte, reduceCtorEq, Nat.reduceLeDiff, Nat.reduceSub, us23, bn, c1, fo291, kt3]; refine hK _ _ ?_; clear hK K
    (repeat first | refine W_seq ?_ | refine seqQ_normal ?_ | refine W_skip ?_ | refine blkQ_normal ?_)
    refine W_cond rfl (fun hlk => ?_) (fun hgk => ?_)
    · have hlk : k < c := by simpa using hlk
      (repeat first | refine W_seq ?_ | refine seqQ_normal ?_ | refine W_skip ?_ | refine blkQ_normal ?_)
      refine W_block ?_
      refine W_kept (l' := _) [0, 1, 5, 7, 8, 9, 10, 11] (by simp only [keep, lk, Nat.reduceEqDiff, reduceIte]; exact rfl) ?_
      obtain ⟨d, hd⟩ : ∃ d, c - k = d + 1 := ⟨c - k - 1, by omega⟩
      have hd' : c - (k + 1) = d := by omega
      rw [hd, List.replicate_succ, List.cons_append] at hx
      have f1 : IntKind.i64.wrap ((p : Int) + 1) = (p : Int) + 1 := wrap63 (by omega) (by omega)
      have f2 : IntKind.i64.wrap ((q : Int) + 1) = (q : Int) + 1 := wrap63 (by omega) (by omega)
      have f3 : IntKind.i64.wrap ((k : Int) + 1) = (k : Int) + 1 := wrap63 (by omega) (by omega)
      rcases steps_inv a b p q _ _ hx.symm with ⟨h, hpi, hqj, he, hr⟩ | ⟨h, hpi, hr⟩ | ⟨h, hqj, hr⟩
      · have x2 : decide ((op : Int) = 2) = false := by rw [decide_eq_false_iff_not]; omega
        have x1 : decide ((op : Int) = 1) = false := by rw [decide_eq_false_iff_not]; omega
        have x0 : decide ((op : Int) = 0) = true := by rw [decide_eq_true_eq]; omega
        have y1 : decide ((a.length : Int) ≤ p) = false := by rw [decide_eq_false_iff_not]; omega
        have y2 : decide ((b.length : Int) ≤ q) = false := by rw [decide_eq_false_iff_not]; omega
        obtain ⟨ba, oa, rfl, ca3⟩ := ha3 (by omega)
        obtain ⟨bb, ob, rfl, cb3⟩ := hb3 (by omega)
        have hBB := hB.trans (hBw.mono hB.size)
        have cA := below_cell hBB (ca3 p (by omega))
        have cB := below_cell hBB (cb3 q (by omega))
        have hA' : (0 : Int) ≤ p ∧ (p : Int) < a.length := by omega
        have hB' : (0 : Int) ≤ q ∧ (q : Int) < b.length := by omega
        have y3 : decide (a.getD p ByteArray.empty = b.getD q ByteArray.empty) = true := by
          simp [List.getD_eq_getElem?_getD, List.getElem?_eq_getElem hpi, List.getElem?_eq_getElem hqj, he]
        (repeat first | refine W_seq ?_ | refine seqQ_normal ?_ | refine W_skip ?_ | refine blkQ_normal ?_); refine W_drw [0, 1, 5, 7, 8, 9, 10, 11] 33 mixed rfl (by kernel_rfl) (fun K hK => ?_); simp only [push_cast, Nat.reduceBEq, Nat.reduceAdd, Nat.reduceLT, Nat.reduceEqDiff, reduceIte, reduceCtorEq, Nat.reduceLeDiff, Nat.reduceSub, us22, kt9, x0, x1, x2, y1, y2, cA, cB, hA', hB', y3]
        intro w5 hw5
        refine v2s ?_; try simp only [push_cast, Nat.reduceBEq, Nat.reduceAdd, Nat.reduceLT, Nat.reduceEqDiff, reduceIte, reduceCtorEq, Nat.reduceLeDiff, Nat.reduceSub]
        refine hK _ _ ?_; clear hK K
        refine seqQ_normal ?_
        refine W_false rfl ?_
        refine W_kept (l' := _) [0, 1, 5, 7, 8, 9, 10, 11] (by simp only [keep, lk, Nat.reduceEqDiff, reduceIte]; exact rfl) ?_
        (repeat first | refine W_seq ?_ | refine seqQ_normal ?_ | refine W_skip ?_ | refine blkQ_normal ?_); refine W_reg (fun K hK => ?_); simp only [push_cast, Nat.reduceBEq, Nat.reduceAdd, Nat.reduceLT, Nat.reduceEqDiff, reduceIte, reduceCtorEq, Nat.reduceLeDiff, Nat.reduceSub, x2]; refine hK _ _ ?_; clear hK K
        (repeat first | refine W_seq ?_ | refine seqQ_normal ?_ | refine W_skip ?_ | refine blkQ_normal ?_)
        refine W_true rfl ?_
        (repeat first | refine W_seq ?_ | refine seqQ_normal ?_ | refine W_skip ?_ | refine blkQ_normal ?_); refine W_reg (fun K hK => ?_); simp only [push_cast, Nat.reduceBEq, Nat.reduceAdd, Nat.reduceLT, Nat.reduceEqDiff, reduceIte, reduceCtorEq, Nat.reduceLeDiff, Nat.reduceSub, f1]; refine hK _ _ ?_; clear hK K
        (repeat first | refine W_seq ?_ | refine seqQ_normal ?_ | refine W_skip ?_ | refine blkQ_normal ?_); refine W_reg (fun K hK => ?_); simp only [push_cast, Nat.reduceBEq, Nat.reduceAdd, Nat.reduceLT, Nat.reduceEqDiff, reduceIte, reduceCtorEq, Nat.reduceLeDiff, Nat.reduceSub, x1]; refine hK _ _ ?_; clear hK K
        (repeat first | refine W_seq ?_ | refine seqQ_normal ?_ | refine W_skip ?_ | refine blkQ_normal ?_)
        refine W_true rfl ?_
        (repeat first | refine W_seq ?_ | refine seqQ_normal ?_ | refine W_skip ?_ | refine blkQ_normal ?_); refine W_reg (fun K hK => ?_); simp only [push_cast, Nat.reduceBEq, Nat.reduceAdd, Nat.reduceLT, Nat.reduceEqDiff, reduceIte, reduceCtorEq, Nat.reduceLeDiff, Nat.reduceSub, f2]; refine hK _ _ ?_; clear hK K
        (repeat first | refine seqQ_ret ?_ | refine seqQ_exit ?_ | refine blkQ_exit ?_ | refine blkQ_other rfl ?_ | refine blkQ_ret ?_ | refine blkQ_normal ?_ | refine W_seq ?_ | refine seqQ_normal ?_ | refine W_skip ?_ | refine W_exit ?_ | refine W_ret ?_)
        (repeat first | refine W_seq ?_ | refine seqQ_normal ?_ | refine W_skip ?_ | refine blkQ_normal ?_); refine W_reg (fun K hK => ?_); simp only [push_cast, Nat.reduceBEq, Nat.reduceAdd, Nat.reduceLT, Nat.reduceEqDiff, reduceIte, reduceCtorEq, Nat.reduceLeDiff, Nat.reduceSub, f3]; refine hK _ _ ?_; clear hK K
        exact seqQ_normal ⟨(k + 1, p + 1, q + 1), rfl, ⟨by show k + 1 ≤ c; omega, by show p + 1 ≤ _; omega, by show q + 1 ≤ _; omega, by show List.replicate (c - (k + 1)) op ++ _ = _; rw [hd']; exact hr, hBw.trans (hw5.mono hBw.size)⟩, by show c - (k + 1) < c - k; omega⟩
      · have x2 : decide ((op : Int) = 2) = false := by rw [decide_eq_false_iff_not]; omega
        have x1 : decide ((op : Int) = 1) = true := by rw [decide_eq_true_eq]; omega
        have x0 : decide ((op : Int) = 0) = false := by rw [decide_eq_false_iff_not]; omega
        have y1 : decide ((a.length : Int) ≤ p) = false := by rw [decide_eq_false_iff_not]; omega
        (repeat first | refine W_seq ?_ | refine seqQ_normal ?_ | refine W_skip ?_ | refine blkQ_normal ?_); refine W_drw [0, 1, 5, 7, 8, 9, 10, 11] 33 mixed rfl (by kernel_rfl) (fun K hK => ?_); simp only [push_cast, Nat.reduceBEq, Nat.reduceAdd, Nat.reduceLT, Nat.reduceEqDiff, reduceIte, reduceCtorEq, Nat.reduceLeDiff, Nat.reduceSub, us22, kt9, x0, x1, x2, y1]
        intro w5 hw5
        refine v2s ?_; try simp only [push_cast, Nat.reduceBEq, Nat.reduceAdd, Nat.reduceLT, Nat.reduceEqDiff, reduceIte, reduceCtorEq, Nat.reduceLeDiff, Nat.reduceSub]
        refine hK _ _ ?_; clear hK K
        refine seqQ_normal ?_
        refine W_false rfl ?_
        refine W_kept (l' := _) [0, 1, 5, 7, 8, 9, 10, 11] (by simp only [keep, lk, Nat.reduceEqDiff, reduceIte]; exact rfl) ?_
        (repeat first | refine W_seq ?_ | refine seqQ_normal ?_ | refine W_skip ?_ | refine blkQ_normal ?_); refine W_reg (fun K hK => ?_); simp only [push_cast, Nat.reduceBEq, Nat.reduceAdd, Nat.reduceLT, Nat.reduceEqDiff, reduceIte, reduceCtorEq, Nat.reduceLeDiff, Nat.reduceSub, x2]; refine hK _ _ ?_; clear hK K
        (repeat first | refine W_seq ?_ | refine seqQ_normal ?_ | refine W_skip ?_ | refine blkQ_normal ?_)
        refine W_true rfl ?_
        (repeat first | refine W_seq ?_ | refine seqQ_normal ?_ | refine W_skip ?_ | refine blkQ_normal ?_); refine W_reg (fun K hK => ?_); simp only [push_cast, Nat.reduceBEq, Nat.reduceAdd, Nat.reduceLT, Nat.reduceEqDiff, reduceIte, reduceCtorEq, Nat.reduceLeDiff, Nat.reduceSub, f1]; refine hK _ _ ?_; clear hK K
        (repeat first | refine W_seq ?_ | refine seqQ_normal ?_ | refine W_skip ?_ | refine blkQ_normal ?_); refine W_reg (fun K hK => ?_); simp only [push_cast, Nat.reduceBEq, Nat.reduceAdd, Nat.reduceLT, Nat.reduceEqDiff, reduceIte, reduceCtorEq, Nat.reduceLeDiff, Nat.reduceSub, x1]; refine hK _ _ ?_; clear hK K
        (repeat first | refine W_seq ?_ | refine seqQ_normal ?_ | refine W_skip ?_ | refine blkQ_normal ?_)
        refine W_false rfl ?_
        (repeat first | refine seqQ_ret ?_ | refine seqQ_exit ?_ | refine blkQ_exit ?_ | refine blkQ_other rfl ?_ | refine blkQ_ret ?_ | refine blkQ_normal ?_ | refine W_seq ?_ | refine seqQ_normal ?_ | refine W_skip ?_ | refine W_exit ?_ | refine W_ret ?_)
        (repeat first | refine W_seq ?_ | refine seqQ_normal ?_ | refine W_skip ?_ | refine blkQ_normal ?_); refine W_reg (fun K hK => ?_); simp only [push_cast, Nat.reduceBEq, Nat.reduceAdd, Nat.reduceLT, Nat.reduceEqDiff, reduceIte, reduceCtorEq, Nat.reduceLeDiff, Nat.reduceSub, f3]; refine hK _ _ ?_; clear hK K
        exact seqQ_normal ⟨(k + 1, p + 1, q), rfl, ⟨by show k + 1 ≤ c; omega, by show p + 1 ≤ _; omega, hj, by show List.replicate (c - (k + 1)) op ++ _ = _; rw [hd']; exact hr, hBw.trans (hw5.mono hBw.size)⟩, by show c - (k + 1) < c - k; omega⟩
      · have x2 : decide ((op : Int) = 2) = true := by rw [decide_eq_true_eq]; omega
        have x1 : decide ((op : Int) = 1) = false := by rw [decide_eq_false_iff_not]; omega
        have x0 : decide ((op : Int) = 0) = false := by rw [decide_eq_false_iff_not]; omega
        have y2 : decide ((b.length : Int) ≤ q) = false := by rw [decide_eq_false_iff_not]; omega
        (repeat first | refine W_seq ?_ | refine seqQ_normal ?_ | refine W_skip ?_ | refine blkQ_normal ?_); refine W_drw [0, 1, 5, 7, 8, 9, 10, 11] 33 mixed rfl (by kernel_rfl) (fun K hK => ?_); simp only [push_cast, Nat.reduceBEq, Nat.reduceAdd, Nat.reduceLT, Nat.reduceEqDiff, reduceIte, reduceCtorEq, Nat.reduceLeDiff, Nat.reduceSub, us22, kt9, x0, x1, x2, y2]
        intro w5 hw5
        refine v2s ?_; try simp only [push_cast, Nat.reduceBEq, Nat.reduceAdd, Nat.reduceLT, Nat.reduceEqDiff, reduceIte, reduceCtorEq, Nat.reduceLeDiff, Nat.reduceSub]
        refine hK _ _ ?_; clear hK K
        refine seqQ_normal ?_
        refine W_false rfl ?_
        refine W_kept (l' := _) [0, 1, 5, 7, 8, 9, 10, 11] (by simp only [keep, lk, Nat.reduceEqDiff, reduceIte]; exact rfl) ?_
        (repeat first | refine W_seq ?_ | refine seqQ_normal ?_ | refine W_skip ?_ | refine blkQ_normal ?_); refine W_reg (fun K hK => ?_); simp only [push_cast, Nat.reduceBEq, Nat.reduceAdd, Nat.reduceLT, Nat.reduceEqDiff, reduceIte, reduceCtorEq, Nat.reduceLeDiff, Nat.reduceSub, x2]; refine hK _ _ ?_; clear hK K
        (repeat first | refine W_seq ?_ | refine seqQ_normal ?_ | refine W_skip ?_ | refine blkQ_normal ?_)
        refine W_false rfl ?_
        (repeat first | refine W_seq ?_ | refine seqQ_normal ?_ | refine W_skip ?_ | refine blkQ_normal ?_); refine W_reg (fun K hK => ?_); simp only [push_cast, Nat.reduceBEq, Nat.reduceAdd, Nat.reduceLT, Nat.reduceEqDiff, reduceIte, reduceCtorEq, Nat.reduceLeDiff, Nat.reduceSub, x1]; refine hK _ _ ?_; clear hK K
        (repeat first | refine W_seq ?_ | refine seqQ_normal ?_ | refine W_skip ?_ | refine blkQ_normal ?_)
        refine W_true rfl ?_
        (repeat first | refine W_seq ?_ | refine seqQ_normal ?_ | refine W_skip ?_ | refine blkQ_normal ?_); refine W_reg (fun K hK => ?_); simp only [push_cast, Nat.reduceBEq, Nat.reduceAdd, Nat.reduceLT, Nat.reduceEqDiff, reduceIte, reduceCtorEq, Nat.reduceLeDiff, Nat.reduceSub, f2]; refine hK _ _ ?_; clear hK K
        (repeat first | refine seqQ_ret ?_ | refine seqQ_exit ?_ | refine blkQ_exit ?_ | refine blkQ_other rfl ?_ | refine blkQ_ret ?_ | refine blkQ_normal ?_ | refine W_seq ?_ | refine seqQ_normal ?_ | refine W_skip ?_ | refine W_exit ?_ | refine W_ret ?_)
        (repeat first | refine W_seq ?_ | refine seqQ_normal ?_ | refine W_skip ?_ | refine blkQ_normal ?_); refine W_reg (fun K hK => ?_); simp only [push_cast, Nat.reduceBEq, Nat.reduceAdd, Nat.reduceLT, Nat.reduceEqDiff, reduceIte, reduceCtorEq, Nat.reduceLeDiff, Nat.reduceSub, f3]; refine hK _ _ ?_; clear hK K
        exact seqQ_normal ⟨(k + 1, p, q + 1), rfl, ⟨by show k + 1 ≤ c; omega, hi, by show q + 1 ≤ _; omega, by show List.replicate (c - (k + 1)) op ++ _ = _; rw [hd']; exact hr, hBw.trans (hw5.mono hBw.size)⟩, by show c - (k + 1) < c - k; omega⟩
    · have hgk : c ≤ k := by simpa using hgk
      rw [show c - k = 0 by omega, List.replicate_zero, List.nil_append] at hx
      have f1 : IntKind.i64.wrap ((n : Int) + 1) = (n : Int) + 1 := wrap63 (by omega) (by omega)
      (repeat first | refine seqQ_ret ?_ | refine seqQ_exit ?_ | refine blkQ_exit ?_ | refine blkQ_other rfl ?_ | refine blkQ_ret ?_ | refine blkQ_normal ?_ | refine W_seq ?_ | refine seqQ_normal ?_ | refine W_skip ?_ | refine W_exit ?_ | refine W_ret ?_)
      (repeat first | refine W_seq ?_ | refine seqQ_normal ?_ | refine W_skip ?_ | refine blkQ_normal ?_); refine W_reg (fun K hK => ?_); simp only [push_cast, Nat.reduceBEq, Nat.reduceAdd, Nat.reduceLT, Nat.reduceEqDiff, reduceIte, reduceCtorEq, Nat.reduceLeDiff, Nat.reduceSub, f1]; refine hK _ _ ?_; clear hK K
      exact seqQ_normal ⟨(n + 1, p, q, (op : Int)), rfl, ⟨by show n + 1 ≤ _; omega, hi, hj, hx, hnext, hBw⟩, by show l.length - (n + 1) < l.length - n; omega⟩
  · have hge : l.length ≤ n := by simpa using hge
    rw [List.drop_eq_nil_of_le hge] at hx
    obtain ⟨h1, h2⟩ := steps_nil_inv a b i j hx.symm
    have q1 : decide ((i : Int) = (a.length : Int)) = true := by rw [decide_eq_true_eq]; omega
    have q2 : decide ((j : Int) = (b.length : Int)) = true := by rw [decide_eq_true_eq]; omega
    (repeat first | refine seqQ_ret ?_ | refine seqQ_exit ?_ | refine blkQ_exit ?_ | refine blkQ_other rfl ?_ | refine blkQ_ret ?_ | refine blkQ_normal ?_ | refine W_seq ?_ | refine seqQ_normal ?_ | refine W_skip ?_ | refine W_exit ?_ | refine W_ret ?_)
    (repeat first | refine W_seq ?_ | refine seqQ_normal ?_ | refine W_skip ?_ | refine blkQ_normal ?_); refine W_reg (fun K hK => ?_); simp only [push_cast, Nat.reduceBEq, Nat.reduceAdd, Nat.reduceLT, Nat.reduceEqDiff, reduceIte, reduceCtorEq, Nat.reduceLeDiff, Nat.reduceSub, us22, q1, q2]; refine hK _ _ ?_; clear hK K
    (repeat first | refine seqQ_ret ?_ | refine seqQ_exit ?_ | refine blkQ_exit ?_ | refine blkQ_other rfl ?_ | refine blkQ_ret ?_ | refine blkQ_normal ?_ | refine W_seq ?_ | refine seqQ_normal ?_ | refine W_skip ?_ | refine W_exit ?_ | refine W_ret ?_)
    simp only [funQ, resE, tup, lk, Nat.reduceEqDiff, reduceIte, reduceCtorEq]
    exact ⟨trivial, hB.trans (hBw.mono hB.size)⟩
end Go.Proofs.Ytlfenddhppoflaa
