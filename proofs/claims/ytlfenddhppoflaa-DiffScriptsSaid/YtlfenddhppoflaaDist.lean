/-
  The walk of diff.Distance.
-/
import Derived.Test.YtlfenddhppoflaaSame
import Derived.Test.YtlfenddhppoflaaDiffL
set_option linter.unusedSimpArgs false
set_option linter.unusedVariables false
set_option maxRecDepth 20000
namespace Go.Proofs.Ytlfenddhppoflaa
open Go Go.Eng Go.RowKit Go.DiffM
attribute [local push_cast] lk_nil lk_cons ev_tmp ev_const ev_global ev_func evs_nil evs_cons stp_some stp_none dsts_nil dsts_cons argsE_nil argsE_cons intBin_add intBin_sub intBin_mul intBin_quo intBin_rem intBin_and intBin_or intBin_xor intBin_andNot intBin_eql intBin_neq intBin_lss intBin_leq intBin_gtr intBin_geq intBin_shl intBin_shr strBin_add strBin_eql strBin_neq strBin_lss strBin_leq strBin_gtr strBin_geq pureBin_int pureBin_str pureBin_beq pureBin_bne pureBin_peq pureBin_pne pureBin_seq pureBin_sne pureBin_agg effEq_eql effEq_neq pureUn_not pureUn_neg pureUn_xor pureConv_int pureConv_str pureField_eq pureIndexAddr_s pureIndexAddr_p pureIndex_s oInt_none oInt_some pureSlice_str pureSlice_sl pureB_len pureB_lens pureB_cap pureB_max pureB_min pureB_app pureB_copy po_move po_assign po_pick po_bin po_un po_conv po_field po_extract po_faddr po_iaddr po_index po_slice po_nil po_builtin po_call po_load po_store po_alloc po_box po_build po_buildS po_makeS eo_load eo_store eo_build eo_buildS eo_makeS eo_app eo_call eo_bin eq_load eq_build eq_call eq_bin parts_nil parts_cons outG_none outG_some dstOk_none dstOk_some out_eq outR_eq outOp_eq outQ_eq imm_load immQ_load imm_alloc imm_box imm_store imm_build imm_call imm_bin immQ_build immQ_call immQ_bin imm_buildS imm_makeS v2_nil v2_cons vq_nil vq_cons undef_eq
attribute [local push_cast] List.take_succ_cons List.take_zero List.drop_succ_cons List.drop_zero true_and and_true Option.isSome_some List.getElem?_cons_zero List.getElem?_cons_succ List.length_cons List.length_nil cond_true cond_false Int.toNat_natCast Nat.mul_one Nat.add_zero Nat.zero_add Addr.add_lit bne_self_eq_false beq_self_eq_true Bool.not_true Bool.not_false List.size_toArray Array.getD_eq_getD_getElem? List.getElem?_toArray Option.getD_some decide_true decide_false eq_self Bool.true_beq Bool.false_beq
/-- how many lines are dropped and added -/
def dist : List (Nat × Nat) → Nat
  | [] => 0
  | (o, n) :: t => (if o = 0 then 0 else n) + dist t
theorem dist_snoc (l : List (Nat × Nat)) (r : Nat × Nat) : dist (l ++ [r]) = dist l + (if r.1 = 0 then 0 else r.2) := by
  induction l with
  | nil => obtain ⟨o, n⟩ := r; simp [dist]
  | cons s t ih => obtain ⟨o, n⟩ := s; simp only [List.cons_append, dist, ih]; omega
theorem dist_take (l : List (Nat × Nat)) (k : Nat) (hk : k < l.length) : dist (l.take (k + 1)) = dist (l.take k) + (if l[k].1 = 0 then 0 else l[k].2) := by
  rw [List.take_succ_eq_append_getElem hk, dist_snoc]
theorem dist_le (l : List (Nat × Nat)) : dist l ≤ (expand l).length := by
  induction l with
  | nil => simp [dist]
  | cons s t ih => obtain ⟨o, n⟩ := s; rw [expand_cons]; simp only [dist, List.length_append, List.length_replicate]; split <;> omega
theorem dist_take_le (l : List (Nat × Nat)) (k : Nat) : dist (l.take k) ≤ (expand l).length := by
  have h := dist_le (l.take k)
  have : expand l = expand (l.take k) ++ expand (l.drop k) := by rw [← expand_app, List.take_append_drop]
  rw [this, List.length_append]; omega
theorem zt29 : zeroT Try.prog 29 = some #[.int .i64 0, .int .i64 0] := by kernel_rfl
set_option maxHeartbeats 1000000 in
theorem dist_calls (w0 : World) (va vb : Value) (a b : List ByteArray) (ha : SlS w0 va a) (hb : SlS w0 vb b) :
    Calls Try.prog 22 #[va, vb] w0 (Ret fun r w' => Below w0.heap.size w0 w' ∧ ((400 < a.length ∨ 400 < b.length) ∧ r = .tuple #[.int .i64 0, .int .i64 4] ∨
      a.length ≤ 400 ∧ b.length ≤ 400 ∧ r = .tuple #[.int .i64 (dist (script a b) : Nat), .int .i64 0])) := by
  refine calls_W (args := [_, _]) Try.func22 rfl Try.ntmps22 Try.results22 (by simp) ?_
  (repeat first | refine W_seq ?_ | refine seqQ_normal ?_ | refine W_skip ?_ | refine blkQ_normal ?_); refine W_reg (fun K hK => ?_); simp only [push_cast, Nat.reduceBEq, Nat.reduceAdd, Nat.reduceLT, Nat.reduceEqDiff, reduceIte, reduceCtorEq, Nat.reduceLeDiff, Nat.reduceSub]; refine hK _ _ ?_; clear hK K
  (repeat first | refine W_seq ?_ | refine seqQ_normal ?_ | refine W_skip ?_ | refine blkQ_normal ?_); refine W_reg (fun K hK => ?_); simp only [push_cast, Nat.reduceBEq, Nat.reduceAdd, Nat.reduceLT, Nat.reduceEqDiff, reduceIte, reduceCtorEq, Nat.reduceLeDiff, Nat.reduceSub]
  refine ⟨cl20, Ret.mono (script_calls w0 _ _ a b ha hb) ?_⟩
  rintro r w1 ⟨hB, hr⟩
  rcases hr with ⟨hlim, rfl⟩ | ⟨hla, hlb, v, rfl, hE⟩
  · refine v2s ?_; try simp only [push_cast, Nat.reduceBEq, Nat.reduceAdd, Nat.reduceLT, Nat.reduceEqDiff, reduceIte, reduceCtorEq, Nat.reduceLeDiff, Nat.reduceSub]
    refine hK _ _ ?_; clear hK K
    have q1 : decide ((4 : Int) = 0) = false := rfl
    (repeat first | refine W_seq ?_ | refine seqQ_normal ?_ | refine W_skip ?_ | refine blkQ_normal ?_); refine W_reg (fun K hK => ?_); simp only [push_cast, Nat.reduceBEq, Nat.reduceAdd, Nat.reduceLT, Nat.reduceEqDiff, reduceIte, reduceCtorEq, Nat.reduceLeDiff, Nat.reduceSub, q1]; refine hK _ _ ?_; clear hK K
    (repeat first | refine W_seq ?_ | refine seqQ_normal ?_ | refine W_skip ?_ | refine blkQ_normal ?_)
    refine W_true rfl ?_
    (repeat first | refine W_seq ?_ | refine seqQ_normal ?_ | refine W_skip ?_ | refine blkQ_normal ?_); refine W_reg (fun K hK => ?_); simp only [push_cast, Nat.reduceBEq, Nat.reduceAdd, Nat.reduceLT, Nat.reduceEqDiff, reduceIte, reduceCtorEq, Nat.reduceLeDiff, Nat.reduceSub]; refine hK _ _ ?_; clear hK K
    (repeat first | refine seqQ_ret ?_ | refine seqQ_exit ?_ | refine blkQ_exit ?_ | refine blkQ_other rfl ?_ | refine blkQ_ret ?_ | refine blkQ_normal ?_ | refine W_seq ?_ | refine seqQ_normal ?_ | refine W_skip ?_ | refine W_exit ?_ | refine W_ret ?_)
    simp only [funQ, resE, tup, lk, Nat.reduceEqDiff, reduceIte, reduceCtorEq]
    exact ⟨hB, .inl ⟨hlim, trivial⟩⟩
  refine v2s ?_; try simp only [push_cast, Nat.reduceBEq, Nat.reduceAdd, Nat.reduceLT, Nat.reduceEqDiff, reduceIte, reduceCtorEq, Nat.reduceLeDiff, Nat.reduceSub]
  refine hK _ _ ?_; clear hK K
  have q0 : decide ((0 : Int) = 0) = true := rfl
  (repeat first | refine W_seq ?_ | refine seqQ_normal ?_ | refine W_skip ?_ | refine blkQ_normal ?_); refine W_reg (fun K hK => ?_); simp only [push_cast, Nat.reduceBEq, Nat.reduceAdd, Nat.reduceLT, Nat.reduceEqDiff, reduceIte, reduceCtorEq, Nat.reduceLeDiff, Nat.reduceSub, q0]; refine hK _ _ ?_; clear hK K
  (repeat first | refine W_seq ?_ | refine seqQ_normal ?_ | refine W_skip ?_ | refine blkQ_normal ?_)
  refine W_false rfl ?_
  obtain ⟨sd, cs, rfl, hcell⟩ := Own.form hE
  clear hE
  obtain ⟨hfine, hexp⟩ := script_fine a b
  obtain ⟨hslen, hcnt⟩ := script_len a b
  have hsteps := steps_len _ a b (Nat.le_refl _)
  rw [← hexp] at hsteps
  generalize script a b = l at *
  have hsh : ∃ bs, (0 < l.length → sd = some ⟨bs, 0, none⟩) ∧ ∀ k (hk : k < l.length), w1.cell? ⟨bs, k * 2, none⟩ = some (.int .i64 (l[k].1 : Nat)) ∧ w1.cell? ⟨bs, k * 2 + 1, none⟩ = some (.int .i64 (l[k].2 : Nat)) := by
    by_cases h0 : 0 < l.length
    · obtain ⟨g, rfl, -, -, hc⟩ := hcell h0
      exact ⟨g, fun _ => rfl, fun k hk => ⟨hc _ _ (eCells_one l k hk).1, hc _ _ (eCells_one l k hk).2⟩⟩
    · exact ⟨0, fun h => absurd h h0, fun k hk => absurd hk (by omega)⟩
  obtain ⟨bs, hsd, hcl⟩ := hsh
  clear hcell
  (repeat first | refine W_seq ?_ | refine seqQ_normal ?_ | refine W_skip ?_ | refine blkQ_normal ?_); refine W_reg (fun K hK => ?_); simp only [push_cast, Nat.reduceBEq, Nat.reduceAdd, Nat.reduceLT, Nat.reduceEqDiff, reduceIte, reduceCtorEq, Nat.reduceLeDiff, Nat.reduceSub]; refine hK _ _ ?_; clear hK K
  (repeat first | refine W_seq ?_ | refine seqQ_normal ?_ | refine W_skip ?_ | refine blkQ_normal ?_); refine W_reg (fun K hK => ?_); simp only [push_cast, Nat.reduceBEq, Nat.reduceAdd, Nat.reduceLT, Nat.reduceEqDiff, reduceIte, reduceCtorEq, Nat.reduceLeDiff, Nat.reduceSub, us23]; refine hK _ _ ?_; clear hK K
  (repeat first | refine W_seq ?_ | refine seqQ_normal ?_ | refine W_skip ?_ | refine blkQ_normal ?_)
  refine W_block ?_
  refine W_loop (fun k : Nat => [(8, .int .i64 (dist (l.take k) : Nat)), (20, .slice sd l.length cs), (21, .int .i64 l.length), (22, .int .i64 k)])
    (fun k w => k ≤ l.length ∧ Below w1.heap.size w1 w) (fun k => l.length - k) [8, 20, 21, 22] 0 rfl ⟨Nat.zero_le _, Below.refl _ _⟩ ?_
  rintro k w ⟨hk, hBw⟩
  have hdk := dist_take_le l k
  (repeat first | refine W_seq ?_ | refine seqQ_normal ?_ | refine W_skip ?_ | refine blkQ_normal ?_); refine W_reg (fun K hK => ?_); simp only [push_cast, Nat.reduceBEq, Nat.reduceAdd, Nat.reduceLT, Nat.reduceEqDiff, reduceIte, reduceCtorEq, Nat.reduceLeDiff, Nat.reduceSub]; refine hK _ _ ?_; clear hK K
  (repeat first | refine W_seq ?_ | refine seqQ_normal ?_ | refine W_skip ?_ | refine blkQ_normal ?_)
  refine W_cond rfl (fun hlt => ?_) (fun hge => ?_)
  · have hkl : k < l.length := by simpa using hlt
    obtain rfl := hsd (by omega)
    have c0 := below_cell hBw (hcl k hkl).1
    have c1 := below_cell hBw (hcl k hkl).2
    have bk : (0 : Int) ≤ k ∧ (k : Int) < l.length := by omega
    have hcA : CellsAt w ⟨bs, k * 2, none⟩ 2 #[.int .i64 (l[k].1 : Nat), .int .i64 (l[k].2 : Nat)] := by
      refine ⟨rfl, fun j v hj => ?_⟩
      match j, hj with
      | 0, hj => cases hj; exact c0
      | 1, hj => cases hj; rw [Addr.add_lit]; exact c1
    have hdn := dist_take l k hkl
    have hck := hcnt k hkl
    (repeat first | refine W_seq ?_ | refine seqQ_normal ?_ | refine W_skip ?_ | refine blkQ_normal ?_)
    refine W_block ?_
    refine W_kept (l' := _) [8, 20, 21, 22] (by simp only [keep, lk, Nat.reduceEqDiff, reduceIte]; exact rfl) ?_
    (repeat first | refine W_seq ?_ | refine seqQ_normal ?_ | refine W_skip ?_ | refine blkQ_normal ?_); refine W_reg (fun K hK => ?_); simp only [push_cast, Nat.reduceBEq, Nat.reduceAdd, Nat.reduceLT, Nat.reduceEqDiff, reduceIte, reduceCtorEq, Nat.reduceLeDiff, Nat.reduceSub, us23, bk, kt29]
    refine ⟨_, hcA, ?_⟩
    refine v2s ?_; try simp only [push_cast, Nat.reduceBEq, Nat.reduceAdd, Nat.reduceLT, Nat.reduceEqDiff, reduceIte, reduceCtorEq, Nat.reduceLeDiff, Nat.reduceSub, zt29]
    have hb0 := (Below.refl w.heap.size w).alloc (Nat.le_refl _) (.cells #[.int .i64 0, .int .i64 0] 29)
    obtain ⟨w4, hr, hs, ho4⟩ := storeAll (P := Try.prog) (ty := 29) (vs := #[.int .i64 (l[k].1 : Nat), .int .i64 (l[k].2 : Nat)]) (Blk.new w #[.int .i64 0, .int .i64 0] 29) kt29 (by simp [Value.oneCell']) rfl
    refine ⟨w4, hr, ?_⟩
    have hb4 := ho4.below hb0 (Nat.le_refl _)
    clear hr
    refine v2s ?_; try simp only [push_cast, Nat.reduceBEq, Nat.reduceAdd, Nat.reduceLT, Nat.reduceEqDiff, reduceIte, reduceCtorEq, Nat.reduceLeDiff, Nat.reduceSub]
    refine hK _ _ ?_; clear hK K
    have g0 := hs.cell 0
    have g1 := hs.cell 1
    simp only [List.getElem?_toArray, List.getElem?_cons_zero, List.getElem?_cons_succ] at g0 g1
    generalize hq : l[k].1 = op at *
    generalize hq2 : l[k].2 = c at *
    generalize hD : dist (l.take k) = D at *
    have f1 : IntKind.i64.wrap ((k : Int) + 1) = (k : Int) + 1 := wrap63 (by omega) (by omega)
    have f2 : IntKind.i64.wrap ((D : Int) + (c : Int)) = (D : Int) + (c : Int) := wrap63 (by omega) (by omega)
    have hsz : w1.heap.size ≤ w.heap.size := hBw.size
    generalize w.heap.size = s at *
    (repeat first | refine W_seq ?_ | refine seqQ_normal ?_ | refine W_skip ?_ | refine blkQ_normal ?_); refine W_reg (fun K hK => ?_); simp only [push_cast, Nat.reduceBEq, Nat.reduceAdd, Nat.reduceLT, Nat.reduceEqDiff, reduceIte, reduceCtorEq, Nat.reduceLeDiff, Nat.reduceSub, kt3, fo290, g0]; refine hK _ _ ?_; clear hK K
    (repeat first | refine W_seq ?_ | refine seqQ_normal ?_ | refine W_skip ?_ | refine blkQ_normal ?_)
    refine W_cond rfl (fun h => ?_) (fun h => ?_)
    · have h : ¬ op = 0 := by simp at h; omega
      rw [if_neg h] at hdn
      (repeat first | refine W_seq ?_ | refine seqQ_normal ?_ | refine W_skip ?_ | refine blkQ_normal ?_); refine W_reg (fun K hK => ?_); simp only [push_cast, Nat.reduceBEq, Nat.reduceAdd, Nat.reduceLT, Nat.reduceEqDiff, reduceIte, reduceCtorEq, Nat.reduceLeDiff, Nat.reduceSub, kt3, fo291, g1, f2]; refine hK _ _ ?_; clear hK K
      (repeat first | refine seqQ_ret ?_ | refine seqQ_exit ?_ | refine blkQ_exit ?_ | refine blkQ_other rfl ?_ | refine blkQ_ret ?_ | refine blkQ_normal ?_ | refine W_seq ?_ | refine seqQ_normal ?_ | refine W_skip ?_ | refine W_exit ?_ | refine W_ret ?_)
      (repeat first | refine W_seq ?_ | refine seqQ_normal ?_ | refine W_skip ?_ | refine blkQ_normal ?_); refine W_reg (fun K hK => ?_); simp only [push_cast, Nat.reduceBEq, Nat.reduceAdd, Nat.reduceLT, Nat.reduceEqDiff, reduceIte, reduceCtorEq, Nat.reduceLeDiff, Nat.reduceSub, f1]; refine hK _ _ ?_; clear hK K
      refine seqQ_normal ⟨k + 1, ?_, ⟨hkl, hBw.trans (hb4.mono hsz)⟩, by omega⟩
      rw [hdn]; rfl
    · have h : op = 0 := by simp at h; omega
      rw [if_pos h] at hdn
      (repeat first | refine seqQ_ret ?_ | refine seqQ_exit ?_ | refine blkQ_exit ?_ | refine blkQ_other rfl ?_ | refine blkQ_ret ?_ | refine blkQ_normal ?_ | refine W_seq ?_ | refine seqQ_normal ?_ | refine W_skip ?_ | refine W_exit ?_ | refine W_ret ?_)
      (repeat first | refine W_seq ?_ | refine seqQ_normal ?_ | refine W_skip ?_ | refine blkQ_normal ?_); refine W_reg (fun K hK => ?_); simp only [push_cast, Nat.reduceBEq, Nat.reduceAdd, Nat.reduceLT, Nat.reduceEqDiff, reduceIte, reduceCtorEq, Nat.reduceLeDiff, Nat.reduceSub, f1]; refine hK _ _ ?_; clear hK K
      refine seqQ_normal ⟨k + 1, ?_, ⟨hkl, hBw.trans (hb4.mono hsz)⟩, by omega⟩
      rw [hdn]; rfl
  · have hge : l.length ≤ k := by simpa using hge
    rw [List.take_of_length_le hge] at *
    (repeat first | refine seqQ_ret ?_ | refine seqQ_exit ?_ | refine blkQ_exit ?_ | refine blkQ_other rfl ?_ | refine blkQ_ret ?_ | refine blkQ_normal ?_ | refine W_seq ?_ | refine seqQ_normal ?_ | refine W_skip ?_ | refine W_exit ?_ | refine W_ret ?_)
    (repeat first | refine W_seq ?_ | refine seqQ_normal ?_ | refine W_skip ?_ | refine blkQ_normal ?_); refine W_reg (fun K hK => ?_); simp only [push_cast, Nat.reduceBEq, Nat.reduceAdd, Nat.reduceLT, Nat.reduceEqDiff, reduceIte, reduceCtorEq, Nat.reduceLeDiff, Nat.reduceSub]; refine hK _ _ ?_; clear hK K
    (repeat first | refine seqQ_ret ?_ | refine seqQ_exit ?_ | refine blkQ_exit ?_ | refine blkQ_other rfl ?_ | refine blkQ_ret ?_ | refine blkQ_normal ?_ | refine W_seq ?_ | refine seqQ_normal ?_ | refine W_skip ?_ | refine W_exit ?_ | refine W_ret ?_)
    simp only [funQ, resE, tup, lk, Nat.reduceEqDiff, reduceIte, reduceCtorEq]
    exact ⟨hB.trans (hBw.mono hB.size), .inr ⟨hla, hlb, trivial⟩⟩
end Go.Proofs.Ytlfenddhppoflaa
