/-
  The walks of ref12.SameEdits and of the law's awake.
-/
import Derived.Test.YtlfenddhppoflaaScript
set_option linter.unusedSimpArgs false
set_option linter.unusedVariables false
set_option maxRecDepth 20000
namespace Go.Proofs.Ytlfenddhppoflaa
open Go Go.Eng Go.RowKit Go.DiffM
attribute [local push_cast] lk_nil lk_cons ev_tmp ev_const ev_global ev_func evs_nil evs_cons stp_some stp_none dsts_nil dsts_cons argsE_nil argsE_cons intBin_add intBin_sub intBin_mul intBin_quo intBin_rem intBin_and intBin_or intBin_xor intBin_andNot intBin_eql intBin_neq intBin_lss intBin_leq intBin_gtr intBin_geq intBin_shl intBin_shr strBin_add strBin_eql strBin_neq strBin_lss strBin_leq strBin_gtr strBin_geq pureBin_int pureBin_str pureBin_beq pureBin_bne pureBin_peq pureBin_pne pureBin_seq pureBin_sne pureBin_agg effEq_eql effEq_neq pureUn_not pureUn_neg pureUn_xor pureConv_int pureConv_str pureField_eq pureIndexAddr_s pureIndexAddr_p pureIndex_s oInt_none oInt_some pureSlice_str pureSlice_sl pureB_len pureB_lens pureB_cap pureB_max pureB_min pureB_app pureB_copy po_move po_assign po_pick po_bin po_un po_conv po_field po_extract po_faddr po_iaddr po_index po_slice po_nil po_builtin po_call po_load po_store po_alloc po_box po_build po_buildS po_makeS eo_load eo_store eo_build eo_buildS eo_makeS eo_app eo_call eo_bin eq_load eq_build eq_call eq_bin parts_nil parts_cons outG_none outG_some dstOk_none dstOk_some out_eq outR_eq outOp_eq outQ_eq imm_load immQ_load imm_alloc imm_box imm_store imm_build imm_call imm_bin immQ_build immQ_call immQ_bin imm_buildS imm_makeS v2_nil v2_cons vq_nil vq_cons undef_eq
attribute [local push_cast] List.take_succ_cons List.take_zero List.drop_succ_cons List.drop_zero true_and and_true Option.isSome_some List.getElem?_cons_zero List.getElem?_cons_succ List.length_cons List.length_nil cond_true cond_false Int.toNat_natCast Nat.mul_one Nat.add_zero Nat.zero_add Addr.add_lit bne_self_eq_false beq_self_eq_true Bool.not_true Bool.not_false List.size_toArray Array.getD_eq_getD_getElem? List.getElem?_toArray Option.getD_some decide_true decide_false eq_self Bool.true_beq Bool.false_beq
/-- a readable script -/
abbrev EdS (w : World) (v : Value) (l : List (Nat × Nat)) : Prop := SlAt w v 2 l.length (fun j => (eCells l).getD j undef)
theorem EditsAt.eds {w : World} {base : Nat} {v : Value} {l : List (Nat × Nat)} (h : EditsAt w base v l) : EdS w v l := Own.slAt h
theorem st29 : Try.prog.stoodInHeld 29 = false := by kernel_rfl
theorem i3 : (sizeOf 3).run Try.prog = fun w => .ok 1 w := by funext w; kernel_rfl
theorem eqInt (d : Nat) (x y : Int) (w : World) : (Op.equalIn (d + 1) 3 (.int .i64 x) (.int .i64 y)).run Try.prog w = .ok (decide (x = y)) w := by
  simp [Op.equalIn, run_underlying Try.underlying3]
  by_cases h : x = y <;> simp [h]
theorem eqR29 (x1 y1 x2 y2 : Int) : EqR Try.prog 29 #[.int .i64 x1, .int .i64 y1] #[.int .i64 x2, .int .i64 y2] (decide (x1 = x2 ∧ y1 = y2)) := by
  refine ⟨by kernel_rfl, fun w => ?_⟩
  unfold Op.equal Op.maxDepth Op.equalIn
  simp [run_underlying Try.underlying29, st29, i3, part, run_isAgg_scalar kt3, eqInt, Sem.run_bind]
  by_cases h1 : x1 = x2 <;> by_cases h2 : y1 = y2 <;> simp [h1, h2]
set_option maxHeartbeats 400000 in
theorem sameEdits_calls (w : World) (va vb : Value) (A B : List (Nat × Nat)) (ha : EdS w va A) (hb : EdS w vb B) (hA : A.length ≤ 1000000) (hB : B.length ≤ 1000000) :
    Calls Try.prog 27 #[va, vb] w (Ret fun r w' => r = .bool (decide (A = B)) ∧ Below w.heap.size w w') := by
  refine calls_W (args := [_, _]) Try.func27 rfl Try.ntmps27 Try.results27 (by simp) ?_
  obtain ⟨aa, ca, rfl, ha1, ha2, ha3⟩ := ha
  obtain ⟨ab, cb, rfl, hb1, hb2, hb3⟩ := hb
  (repeat first | refine W_seq ?_ | refine seqQ_normal ?_ | refine W_skip ?_ | refine blkQ_normal ?_); refine W_reg (fun K hK => ?_); simp only [push_cast, Nat.reduceBEq, Nat.reduceAdd, Nat.reduceLT, Nat.reduceEqDiff, reduceIte, reduceCtorEq, Nat.reduceLeDiff, Nat.reduceSub]; refine hK _ _ ?_; clear hK K
  (repeat first | refine W_seq ?_ | refine seqQ_normal ?_ | refine W_skip ?_ | refine blkQ_normal ?_); refine W_reg (fun K hK => ?_); simp only [push_cast, Nat.reduceBEq, Nat.reduceAdd, Nat.reduceLT, Nat.reduceEqDiff, reduceIte, reduceCtorEq, Nat.reduceLeDiff, Nat.reduceSub, us23]; refine hK _ _ ?_; clear hK K
  (repeat first | refine W_seq ?_ | refine seqQ_normal ?_ | refine W_skip ?_ | refine blkQ_normal ?_)
  refine W_cond rfl (fun h => ?_) (fun h => ?_)
  · (repeat first | refine W_seq ?_ | refine seqQ_normal ?_ | refine W_skip ?_ | refine blkQ_normal ?_); refine W_reg (fun K hK => ?_); simp only [push_cast, Nat.reduceBEq, Nat.reduceAdd, Nat.reduceLT, Nat.reduceEqDiff, reduceIte, reduceCtorEq, Nat.reduceLeDiff, Nat.reduceSub]; refine hK _ _ ?_; clear hK K
    (repeat first | refine seqQ_ret ?_ | refine seqQ_exit ?_ | refine blkQ_exit ?_ | refine blkQ_other rfl ?_ | refine blkQ_ret ?_ | refine blkQ_normal ?_ | refine W_seq ?_ | refine seqQ_normal ?_ | refine W_skip ?_ | refine W_exit ?_ | refine W_ret ?_)
    simp only [funQ, resE, tup, lk, Nat.reduceEqDiff, reduceIte, reduceCtorEq]
    refine ⟨?_, Below.refl _ _⟩
    have : ¬ A = B := fun e => by subst e; simp at h
    simp [this]
  have hl : B.length = A.length := by simp at h; omega
  rw [hl] at hb3 ⊢
  (repeat first | refine W_seq ?_ | refine seqQ_normal ?_ | refine W_skip ?_ | refine blkQ_normal ?_)
  (repeat first | refine W_seq ?_ | refine seqQ_normal ?_ | refine W_skip ?_ | refine blkQ_normal ?_); refine W_reg (fun K hK => ?_); simp only [push_cast, Nat.reduceBEq, Nat.reduceAdd, Nat.reduceLT, Nat.reduceEqDiff, reduceIte, reduceCtorEq, Nat.reduceLeDiff, Nat.reduceSub]; refine hK _ _ ?_; clear hK K
  (repeat first | refine W_seq ?_ | refine seqQ_normal ?_ | refine W_skip ?_ | refine blkQ_normal ?_); refine W_block ?_
  refine W_loop (fun k : Nat => [(0, .slice aa A.length ca), (1, .slice ab A.length cb), (5, .int .i64 k)]) (fun k w' => k ≤ A.length ∧ Below w.heap.size w w' ∧ A.take k = B.take k) (fun k => A.length - k) [0, 1, 5] 0 rfl ⟨Nat.zero_le _, Below.refl _ _, by simp⟩ ?_
  rintro k w' ⟨hk, hB', ht⟩
  (repeat first | refine W_seq ?_ | refine seqQ_normal ?_ | refine W_skip ?_ | refine blkQ_normal ?_); refine W_reg (fun K hK => ?_); simp only [push_cast, Nat.reduceBEq, Nat.reduceAdd, Nat.reduceLT, Nat.reduceEqDiff, reduceIte, reduceCtorEq, Nat.reduceLeDiff, Nat.reduceSub, us23]; refine hK _ _ ?_; clear hK K
  (repeat first | refine W_seq ?_ | refine seqQ_normal ?_ | refine W_skip ?_ | refine blkQ_normal ?_); refine W_cond rfl (fun hlt => ?_) (fun hge => ?_)
  · have hlt : k < A.length := by simpa using hlt
    obtain ⟨ba, oa, rfl, hca⟩ := ha3 (by omega)
    obtain ⟨bb, ob, rfl, hcb⟩ := hb3 (by omega)
    have hlt' : (0 : Int) ≤ k ∧ (k : Int) < A.length := by omega
    have cA : CellsAt w' ⟨ba, oa + k * 2, none⟩ 2 #[.int .i64 (A[k].1 : Nat), .int .i64 (A[k].2 : Nat)] := by
      have h0 := below_cell hB' (hca (k * 2) (by omega))
      have h1 := below_cell hB' (hca (k * 2 + 1) (by omega))
      simp only [List.getD_eq_getElem?_getD, (eCells_one A k hlt).1, (eCells_one A k hlt).2, Option.getD_some] at h0 h1
      refine ⟨rfl, fun j v hj => ?_⟩
      match j, hj with
      | 0, hj => cases hj; exact h0
      | 1, hj => cases hj; rw [Addr.add_lit, Nat.add_assoc]; exact h1
    have cB : CellsAt w' ⟨bb, ob + k * 2, none⟩ 2 #[.int .i64 ((B[k]'(by omega)).1 : Nat), .int .i64 ((B[k]'(by omega)).2 : Nat)] := by
      have h0 := below_cell hB' (hcb (k * 2) (by omega))
      have h1 := below_cell hB' (hcb (k * 2 + 1) (by omega))
      simp only [List.getD_eq_getElem?_getD, (eCells_one B k (by omega)).1, (eCells_one B k (by omega)).2, Option.getD_some] at h0 h1
      refine ⟨rfl, fun j v hj => ?_⟩
      match j, hj with
      | 0, hj => cases hj; exact h0
      | 1, hj => cases hj; rw [Addr.add_lit, Nat.add_assoc]; exact h1
    (repeat first | refine W_seq ?_ | refine seqQ_normal ?_ | refine W_skip ?_ | refine blkQ_normal ?_); refine W_block ?_
    refine W_kept (l' := _) [0, 1, 5] (by simp only [keep, lk, Nat.reduceEqDiff, reduceIte]; exact rfl) ?_
    (repeat first | refine W_seq ?_ | refine seqQ_normal ?_ | refine W_skip ?_ | refine blkQ_normal ?_); refine W_drw [0, 1, 5] 9 mixed rfl (by kernel_rfl) (fun K hK => ?_); simp only [push_cast, Nat.reduceBEq, Nat.reduceAdd, Nat.reduceLT, Nat.reduceEqDiff, reduceIte, reduceCtorEq, Nat.reduceLeDiff, Nat.reduceSub, us23, kt29, hlt']
    refine ⟨_, cA, ?_⟩
    refine vqs ?_; try simp only [push_cast, Nat.reduceBEq, Nat.reduceAdd, Nat.reduceLT, Nat.reduceEqDiff, reduceIte, reduceCtorEq, Nat.reduceLeDiff, Nat.reduceSub, us23, kt29, hlt']
    refine ⟨_, cB, ?_⟩
    refine vqs ?_; try simp only [push_cast, Nat.reduceBEq, Nat.reduceAdd, Nat.reduceLT, Nat.reduceEqDiff, reduceIte, reduceCtorEq, Nat.reduceLeDiff, Nat.reduceSub]
    refine ⟨_, eqR29 _ _ _ _, ?_⟩
    refine vqs ?_; try simp only [push_cast, Nat.reduceBEq, Nat.reduceAdd, Nat.reduceLT, Nat.reduceEqDiff, reduceIte, reduceCtorEq, Nat.reduceLeDiff, Nat.reduceSub]
    intro w1 hw1
    refine v2s ?_; try simp only [push_cast, Nat.reduceBEq, Nat.reduceAdd, Nat.reduceLT, Nat.reduceEqDiff, reduceIte, reduceCtorEq, Nat.reduceLeDiff, Nat.reduceSub]
    refine hK _ _ ?_; clear hK K
    have hB1 := hB'.trans (hw1.mono hB'.size)
    refine seqQ_normal ?_
    refine W_cond rfl (fun he => ?_) (fun he => ?_)
    · (repeat first | refine W_seq ?_ | refine seqQ_normal ?_ | refine W_skip ?_ | refine blkQ_normal ?_); refine W_reg (fun K hK => ?_); simp only [push_cast, Nat.reduceBEq, Nat.reduceAdd, Nat.reduceLT, Nat.reduceEqDiff, reduceIte, reduceCtorEq, Nat.reduceLeDiff, Nat.reduceSub]; refine hK _ _ ?_; clear hK K
      (repeat first | refine seqQ_ret ?_ | refine seqQ_exit ?_ | refine blkQ_exit ?_ | refine blkQ_other rfl ?_ | refine blkQ_ret ?_ | refine blkQ_normal ?_ | refine W_seq ?_ | refine seqQ_normal ?_ | refine W_skip ?_ | refine W_exit ?_ | refine W_ret ?_)
      simp only [funQ, resE, tup, lk, Nat.reduceEqDiff, reduceIte, reduceCtorEq]
      refine ⟨?_, hB1⟩
      have : ¬ A = B := fun e => by subst e; simp at he
      simp [this]
    · have f3 : IntKind.i64.wrap ((k : Int) + 1) = (k : Int) + 1 := wrap63 (by omega) (by omega)
      (repeat first | refine W_seq ?_ | refine seqQ_normal ?_ | refine W_skip ?_ | refine blkQ_normal ?_); refine W_reg (fun K hK => ?_); simp only [push_cast, Nat.reduceBEq, Nat.reduceAdd, Nat.reduceLT, Nat.reduceEqDiff, reduceIte, reduceCtorEq, Nat.reduceLeDiff, Nat.reduceSub, f3]; refine hK _ _ ?_; clear hK K
      refine seqQ_normal ⟨k + 1, rfl, ⟨hlt, hB1, ?_⟩, by omega⟩
      rw [List.take_succ_eq_append_getElem hlt, List.take_succ_eq_append_getElem (by omega), ht]
      have : A[k] = B[k] := by
        simp at he
        exact Prod.ext (by omega) (by omega)
      rw [this]
  · have hge : A.length ≤ k := by simpa using hge
    (repeat first | refine seqQ_ret ?_ | refine seqQ_exit ?_ | refine blkQ_exit ?_ | refine blkQ_other rfl ?_ | refine blkQ_ret ?_ | refine blkQ_normal ?_ | refine W_seq ?_ | refine seqQ_normal ?_ | refine W_skip ?_ | refine W_exit ?_ | refine W_ret ?_)
    (repeat first | refine W_seq ?_ | refine seqQ_normal ?_ | refine W_skip ?_ | refine blkQ_normal ?_); refine W_reg (fun K hK => ?_); simp only [push_cast, Nat.reduceBEq, Nat.reduceAdd, Nat.reduceLT, Nat.reduceEqDiff, reduceIte, reduceCtorEq, Nat.reduceLeDiff, Nat.reduceSub]; refine hK _ _ ?_; clear hK K
    (repeat first | refine seqQ_ret ?_ | refine seqQ_exit ?_ | refine blkQ_exit ?_ | refine blkQ_other rfl ?_ | refine blkQ_ret ?_ | refine blkQ_normal ?_ | refine W_seq ?_ | refine seqQ_normal ?_ | refine W_skip ?_ | refine W_exit ?_ | refine W_ret ?_)
    simp only [funQ, resE, tup, lk, Nat.reduceEqDiff, reduceIte, reduceCtorEq]
    refine ⟨?_, hB'⟩
    rw [List.take_of_length_le (by omega), List.take_of_length_le (by omega)] at ht
    simp [ht]

def sa : ByteArray := ⟨#[97]⟩
def sb : ByteArray := ⟨#[98]⟩
def sc : ByteArray := ⟨#[99]⟩
def sx : ByteArray := ⟨#[120]⟩
theorem awake_script : script [sa, sb, sc] [sb, sx, sc] = [(1, 1), (0, 1), (2, 1), (0, 1)] := by
  have h1 : ¬ sa = sb := by decide
  have h2 : ¬ sa = sx := by decide
  have h3 : ¬ sa = sc := by decide
  have h4 : ¬ sb = sx := by decide
  have h5 : ¬ sb = sc := by decide
  have h6 : ¬ sc = sx := by decide
  have h7 : ¬ sc = sb := by decide
  simp [script, runs, steps, lcs, addStep, h1, h2, h3, h4, h5, h6, h7]
theorem se22 : seOf Try.prog 22 = some (9, 1, 16, #[.string ByteArray.empty]) := by kernel_rfl
theorem cl20 : callable Try.prog 20 = true := by kernel_rfl
theorem cl21 : callable Try.prog 21 = true := by kernel_rfl
theorem cl27 : callable Try.prog 27 = true := by kernel_rfl
theorem own_sls3 {w : World} {base : Nat} {v : Value} {x y z : ByteArray} (h : Own w base 9 1 v 3 [.string x, .string y, .string z]) : SlS w v [x, y, z] :=
  (Own.slAt h).congr fun j hj => by
    match j, hj with
    | 0, _ => rfl
    | 1, _ => rfl
    | 2, _ => rfl
set_option maxHeartbeats 400000 in
theorem awake_calls (w : World) : Calls Try.prog 21 #[] w (Ret fun r w' => r = .bool true ∧ Below w.heap.size w w') := by
  refine calls_W (args := []) Try.func21 rfl Try.ntmps21 Try.results21 (by simp) ?_
  (repeat first | refine W_seq ?_ | refine seqQ_normal ?_ | refine W_skip ?_ | refine blkQ_normal ?_); refine W_reg (fun K hK => ?_); simp only [push_cast, Nat.reduceBEq, Nat.reduceAdd, Nat.reduceLT, Nat.reduceEqDiff, reduceIte, reduceCtorEq, Nat.reduceLeDiff, Nat.reduceSub]; refine hK _ _ ?_; clear hK K
  (repeat first | refine W_seq ?_ | refine seqQ_normal ?_ | refine W_skip ?_ | refine blkQ_normal ?_); refine W_reg (fun K hK => ?_); simp only [push_cast, Nat.reduceBEq, Nat.reduceAdd, Nat.reduceLT, Nat.reduceEqDiff, reduceIte, reduceCtorEq, Nat.reduceLeDiff, Nat.reduceSub]
  obtain ⟨w1, hr, ho1, hb1, hlt1⟩ := own_lit (P := Try.prog) (w := w) (len := 3) #[.string sa, .string sb, .string sc] se22 (by omega) (by decide) (parts := #[(0, .string sa), (1, .string sb), (2, .string sc)]) (by kernel_rfl) rfl
  refine ⟨_, w1, hr, ?_⟩
  clear hr
  refine v2s ?_; try simp only [push_cast, Nat.reduceBEq, Nat.reduceAdd, Nat.reduceLT, Nat.reduceEqDiff, reduceIte, reduceCtorEq, Nat.reduceLeDiff, Nat.reduceSub]
  obtain ⟨w2, hr, ho2, hb2, hlt2⟩ := own_lit (P := Try.prog) (w := w1) (len := 3) #[.string sb, .string sx, .string sc] se22 (by omega) (by decide) (parts := #[(0, .string sb), (1, .string sx), (2, .string sc)]) (by kernel_rfl) rfl
  refine ⟨_, w2, hr, ?_⟩
  clear hr
  have ho1 := ho1.up hb2
  have hB := hb1.trans (hb2.mono hb1.size)
  refine v2s ?_; try simp only [push_cast, Nat.reduceBEq, Nat.reduceAdd, Nat.reduceLT, Nat.reduceEqDiff, reduceIte, reduceCtorEq, Nat.reduceLeDiff, Nat.reduceSub]
  refine ⟨cl20, Ret.mono (script_calls w2 _ _ [sa, sb, sc] [sb, sx, sc] (own_sls3 ho1) (own_sls3 ho2)) ?_⟩
  rintro _ w3 ⟨hb3, hr⟩
  rcases hr with ⟨h, -⟩ | ⟨-, -, v, rfl, hE⟩
  · simp at h
  rw [awake_script] at hE
  have hB := hB.trans (hb3.mono hB.size)
  refine v2s ?_; try simp only [push_cast, Nat.reduceBEq, Nat.reduceAdd, Nat.reduceLT, Nat.reduceEqDiff, reduceIte, reduceCtorEq, Nat.reduceLeDiff, Nat.reduceSub]
  refine hK _ _ ?_; clear hK K
  generalize w2.heap.size = B2 at *
  (repeat first | refine W_seq ?_ | refine seqQ_normal ?_ | refine W_skip ?_ | refine blkQ_normal ?_); refine W_reg (fun K hK => ?_); simp only [push_cast, Nat.reduceBEq, Nat.reduceAdd, Nat.reduceLT, Nat.reduceEqDiff, reduceIte, reduceCtorEq, Nat.reduceLeDiff, Nat.reduceSub, fo290]
  refine ⟨_, build29 _ _, ?_⟩
  refine v2s ?_; try simp only [push_cast, Nat.reduceBEq, Nat.reduceAdd, Nat.reduceLT, Nat.reduceEqDiff, reduceIte, reduceCtorEq, Nat.reduceLeDiff, Nat.reduceSub]
  refine ⟨_, build29 _ _, ?_⟩
  refine v2s ?_; try simp only [push_cast, Nat.reduceBEq, Nat.reduceAdd, Nat.reduceLT, Nat.reduceEqDiff, reduceIte, reduceCtorEq, Nat.reduceLeDiff, Nat.reduceSub]
  refine ⟨_, build29 _ _, ?_⟩
  refine v2s ?_; try simp only [push_cast, Nat.reduceBEq, Nat.reduceAdd, Nat.reduceLT, Nat.reduceEqDiff, reduceIte, reduceCtorEq, Nat.reduceLeDiff, Nat.reduceSub]
  refine ⟨_, build29 _ _, ?_⟩
  refine v2s ?_; try simp only [push_cast, Nat.reduceBEq, Nat.reduceAdd, Nat.reduceLT, Nat.reduceEqDiff, reduceIte, reduceCtorEq, Nat.reduceLeDiff, Nat.reduceSub]
  obtain ⟨w4, hr, ho4, hb4, hlt4⟩ := own_lit (P := Try.prog) (w := w3) (len := 4) #[.int .i64 1, .int .i64 1, .int .i64 0, .int .i64 1, .int .i64 2, .int .i64 1, .int .i64 0, .int .i64 1] se23 (by omega) (by decide)
    (parts := #[(0, .agg #[.int .i64 1, .int .i64 1]), (1, .agg #[.int .i64 0, .int .i64 1]), (2, .agg #[.int .i64 2, .int .i64 1]), (3, .agg #[.int .i64 0, .int .i64 1])]) (by kernel_rfl) rfl
  refine ⟨_, w4, hr, ?_⟩
  clear hr
  have hE := Own.up hE hb4
  have hB := hB.trans (hb4.mono hB.size)
  refine v2s ?_; try simp only [push_cast, Nat.reduceBEq, Nat.reduceAdd, Nat.reduceLT, Nat.reduceEqDiff, reduceIte, reduceCtorEq, Nat.reduceLeDiff, Nat.reduceSub]
  refine ⟨cl27, Ret.mono (sameEdits_calls w4 _ _ [(1, 1), (0, 1), (2, 1), (0, 1)] [(1, 1), (0, 1), (2, 1), (0, 1)] (Own.slAt hE) (Own.slAt ho4) (by decide) (by decide)) ?_⟩
  rintro _ w5 ⟨rfl, hb5⟩
  have hB := hB.trans (hb5.mono hB.size)
  refine v2s ?_; try simp only [push_cast, Nat.reduceBEq, Nat.reduceAdd, Nat.reduceLT, Nat.reduceEqDiff, reduceIte, reduceCtorEq, Nat.reduceLeDiff, Nat.reduceSub]
  refine hK _ _ ?_; clear hK K
  (repeat first | refine seqQ_ret ?_ | refine seqQ_exit ?_ | refine blkQ_exit ?_ | refine blkQ_other rfl ?_ | refine blkQ_ret ?_ | refine blkQ_normal ?_ | refine W_seq ?_ | refine seqQ_normal ?_ | refine W_skip ?_ | refine W_exit ?_ | refine W_ret ?_)
  simp only [funQ, resE, tup, lk, Nat.reduceEqDiff, reduceIte, reduceCtorEq]
  exact ⟨trivial, hB⟩
end Go.Proofs.Ytlfenddhppoflaa
