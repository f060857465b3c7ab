/-
  The walks of the two laws on settings.
-/
import Derived.Test.YtmllbocjcllmpaaCfg
set_option linter.unusedSimpArgs false
set_option linter.unusedVariables false
set_option maxRecDepth 20000
namespace Go.Proofs.Ytmllbocjcllmpaa
open Go Go.Eng Go.RowKit
attribute [local push_cast] lk_nil lk_cons ev_tmp ev_const ev_global ev_func evs_nil evs_cons stp_some stp_none dsts_nil dsts_cons argsE_nil argsE_cons intBin_add intBin_sub intBin_mul intBin_quo intBin_rem intBin_and intBin_or intBin_xor intBin_andNot intBin_eql intBin_neq intBin_lss intBin_leq intBin_gtr intBin_geq intBin_shl intBin_shr strBin_add strBin_eql strBin_neq strBin_lss strBin_leq strBin_gtr strBin_geq pureBin_int pureBin_str pureBin_beq pureBin_bne pureBin_peq pureBin_pne pureBin_seq pureBin_sne pureBin_agg effEq_eql effEq_neq pureUn_not pureUn_neg pureUn_xor pureConv_int pureConv_str pureField_eq pureIndexAddr_s pureIndexAddr_p pureIndex_s oInt_none oInt_some pureSlice_str pureSlice_sl pureB_len pureB_lens pureB_cap pureB_max pureB_min pureB_app pureB_copy po_move po_assign po_pick po_bin po_un po_conv po_field po_extract po_faddr po_iaddr po_index po_slice po_nil po_builtin po_call po_load po_store po_alloc po_box po_build po_buildS po_makeS eo_load eo_store eo_build eo_buildS eo_makeS eo_app eo_call eo_bin eq_load eq_build eq_call eq_bin parts_nil parts_cons outG_none outG_some dstOk_none dstOk_some out_eq outR_eq outOp_eq outQ_eq imm_load immQ_load imm_alloc imm_box imm_store imm_build imm_call imm_bin immQ_build immQ_call immQ_bin imm_buildS imm_makeS v2_nil v2_cons vq_nil vq_cons undef_eq
attribute [local push_cast] List.take_succ_cons List.take_zero List.drop_succ_cons List.drop_zero true_and and_true Option.isSome_some List.getElem?_cons_zero List.getElem?_cons_succ List.length_cons List.length_nil cond_true cond_false Int.toNat_natCast Nat.mul_one Nat.add_zero Nat.zero_add Addr.add_lit bne_self_eq_false beq_self_eq_true Bool.not_true Bool.not_false List.size_toArray Array.getD_eq_getD_getElem? List.getElem?_toArray Option.getD_some decide_true decide_false eq_self Bool.true_beq Bool.false_beq

theorem cl5 : callable Try.prog 5 = true := by kernel_rfl
theorem cl6 : callable Try.prog 6 = true := by kernel_rfl
theorem cl7 : callable Try.prog 7 = true := by kernel_rfl
theorem cl8 : callable Try.prog 8 = true := by kernel_rfl
theorem cl9 : callable Try.prog 9 = true := by kernel_rfl
/-- A new variable of settings, and what is laid in it. -/
theorem newS (w : World) (c : List Int) (hc : c.length = 17) : ∃ w', (storeVar 24 ⟨w.heap.size, 0, none⟩ (.agg (vals c))).run Try.prog (w.alloc (.cells (vals zeros) 24)) = .ok () w' ∧ Blk w' w.heap.size (vals c) 24 ∧
    Below w.heap.size w w' ∧ w.heap.size < w'.heap.size := by
  obtain ⟨w', h1, h2, h3⟩ := storeAll (P := Try.prog) (ty := 24) (Blk.new w (vals zeros) 24) (by rw [kt24, vals_size, hc]) (vals_one c) (by rw [vals_size, vals_size, hc]; rfl)
  exact ⟨w', h1, h2, h3.below ((Below.refl _ _).alloc (Nat.le_refl _) _) (Nat.le_refl _), h2.lt⟩
theorem set_len {c : List Int} {word : ByteArray} {a v : Int} (hc : c.length = 17) : ((setM c word a v).getD zeros).length = 17 := by
  unfold setM
  repeat' split
  all_goals first | rfl | (simp only [Option.getD_some, List.length_set]; exact hc)
theorem start_len (n : Int) : ((startM n).getD zeros).length = 17 := by
  unfold startM; split <;> rfl
def two : List Int := [2, 100000, 0, 0, 0, 0, 0, 0, 0, 0, 0, 0, 0, 0, 0, 0, 0]
def five : List Int := [2, 100000, 0, 0, 0, 5, 0, 0, 0, 0, 0, 0, 0, 0, 0, 0, 0]
theorem start_two : retS (startM 2) = .tuple #[.agg (vals two), .int .i64 0] := rfl
theorem set_five : retS (setM two ⟨#[112, 101, 114, 105, 111, 100]⟩ 2 5) = .tuple #[.agg (vals five), .int .i64 0] := by
  have : setM two ⟨#[112, 101, 114, 105, 111, 100]⟩ 2 5 = some five := by decide
  rw [this]; rfl

set_option maxHeartbeats 400000 in
set_option maxRecDepth 20000 in
theorem awake_calls (w : World) : Calls Try.prog 9 #[] w (Ret fun r w' => r = .bool true ∧ Below w.heap.size w w') := by
  refine calls_W (args := []) Try.func9 rfl Try.ntmps9 Try.results9 (by simp) ?_
  (repeat first | refine W_seq ?_ | refine seqQ_normal ?_ | refine W_skip ?_ | refine blkQ_normal ?_); refine W_reg (fun K hK => ?_); simp only [push_cast, Nat.reduceBEq, Nat.reduceAdd, Nat.reduceLT, Nat.reduceEqDiff, reduceIte, reduceCtorEq, Nat.reduceLeDiff, Nat.reduceSub]; refine hK _ _ ?_; clear hK K
  (repeat first | refine W_seq ?_ | refine seqQ_normal ?_ | refine W_skip ?_ | refine blkQ_normal ?_); refine W_reg (fun K hK => ?_); simp only [push_cast, Nat.reduceBEq, Nat.reduceAdd, Nat.reduceLT, Nat.reduceEqDiff, reduceIte, reduceCtorEq, Nat.reduceLeDiff, Nat.reduceSub]
  refine ⟨cl5, Ret.mono (start_calls 2 w) ?_⟩
  rintro _ w1 ⟨rfl, hb1⟩
  rw [start_two]
  refine v2s ?_; try simp only [push_cast, Nat.reduceBEq, Nat.reduceAdd, Nat.reduceLT, Nat.reduceEqDiff, reduceIte, reduceCtorEq, Nat.reduceLeDiff, Nat.reduceSub, zt24]
  obtain ⟨w2, hr, hblk, hb2, hlt⟩ := newS w1 two rfl
  refine ⟨w2, hr, ?_⟩
  refine v2s ?_; try simp only [push_cast, Nat.reduceBEq, Nat.reduceAdd, Nat.reduceLT, Nat.reduceEqDiff, reduceIte, reduceCtorEq, Nat.reduceLeDiff, Nat.reduceSub]
  refine hK _ _ ?_; clear hK K
  have hB2 := hb1.trans (hb2.mono hb1.size)
  generalize hA : w1.heap.size = A at *
  have hA0 : w.heap.size ≤ A := by have := hb1.size; omega
  clear hr
  (repeat first | refine W_seq ?_ | refine seqQ_normal ?_ | refine W_skip ?_ | refine blkQ_normal ?_); refine W_reg (fun K hK => ?_); simp only [push_cast, Nat.reduceBEq, Nat.reduceAdd, Nat.reduceLT, Nat.reduceEqDiff, reduceIte, reduceCtorEq, Nat.reduceLeDiff, Nat.reduceSub, kt24]
  refine ⟨_, hblk.cells rfl, ?_⟩
  refine v2s ?_; try simp only [push_cast, Nat.reduceBEq, Nat.reduceAdd, Nat.reduceLT, Nat.reduceEqDiff, reduceIte, reduceCtorEq, Nat.reduceLeDiff, Nat.reduceSub]
  refine ⟨cl7, Ret.mono (set_calls two rfl _ 2 5 w2) ?_⟩
  rintro _ w3 ⟨rfl, hb3⟩
  rw [set_five]
  refine v2s ?_; try simp only [push_cast, Nat.reduceBEq, Nat.reduceAdd, Nat.reduceLT, Nat.reduceEqDiff, reduceIte, reduceCtorEq, Nat.reduceLeDiff, Nat.reduceSub, zt24]
  obtain ⟨w4, hr, hblk4, hb4, hlt4⟩ := newS w3 five rfl
  refine ⟨w4, hr, ?_⟩
  refine v2s ?_; try simp only [push_cast, Nat.reduceBEq, Nat.reduceAdd, Nat.reduceLT, Nat.reduceEqDiff, reduceIte, reduceCtorEq, Nat.reduceLeDiff, Nat.reduceSub]
  refine hK _ _ ?_; clear hK K
  have hB4 := (hB2.trans (hb3.mono hB2.size)).trans (hb4.mono (Nat.le_trans hB2.size hb3.size))
  generalize hC : w3.heap.size = C at *
  have c0 : w4.cell? ⟨C, 0, none⟩ = some (.int .i64 2) := hblk4.cell 0
  have c1 : w4.cell? ⟨C, 1, none⟩ = some (.int .i64 100000) := hblk4.cell 1
  have c5 : w4.cell? ⟨C, 3 + Int.toNat 2, none⟩ = some (.int .i64 5) := hblk4.cell 5
  (repeat first | refine W_seq ?_ | refine seqQ_normal ?_ | refine W_skip ?_ | refine blkQ_normal ?_); refine W_reg (fun K hK => ?_); simp only [push_cast, Nat.reduceBEq, Nat.reduceAdd, Nat.reduceLT, Nat.reduceEqDiff, reduceIte, reduceCtorEq, Nat.reduceLeDiff, Nat.reduceSub, fo0, fo1, fo3, kt3, ua22, c0, c1, c5, kt25]
  refine ⟨by decide, hK _ _ ?_⟩
  (repeat first | refine seqQ_ret ?_ | refine seqQ_exit ?_ | refine blkQ_exit ?_ | refine blkQ_other rfl ?_ | refine blkQ_ret ?_ | refine blkQ_normal ?_ | refine W_seq ?_ | refine seqQ_normal ?_ | refine W_skip ?_ | refine W_exit ?_ | refine W_ret ?_)
  simp only [funQ, resE, tup, lk, Nat.reduceEqDiff, reduceIte, reduceCtorEq]
  exact ⟨trivial, hB4⟩

theorem retS_eq (o : Option (List Int)) : retS o = .tuple #[.agg (vals (o.getD zeros)), .int .i64 (if o.isSome then 0 else 1)] := rfl
set_option maxHeartbeats 400000 in
set_option maxRecDepth 20000 in
theorem sets_calls (c : List Int) (hc : c.length = 17) (word : ByteArray) (a v : Int) (w : World) :
    Calls Try.prog 3 #[.agg (vals c), .string word, .int .i64 a, .int .i64 v] w (Ret fun r w' => r = .bool true ∧ Below w.heap.size w w') := by
  refine calls_W (args := [_, _, _, _]) Try.func3 rfl Try.ntmps3 Try.results3 (by simp) ?_
  (repeat first | refine W_seq ?_ | refine seqQ_normal ?_ | refine W_skip ?_ | refine blkQ_normal ?_); refine W_reg (fun K hK => ?_); simp only [push_cast, Nat.reduceBEq, Nat.reduceAdd, Nat.reduceLT, Nat.reduceEqDiff, reduceIte, reduceCtorEq, Nat.reduceLeDiff, Nat.reduceSub, Value.cells]; refine hK _ _ ?_; clear hK K
  have hs := Blk.new w (vals c) 24
  have hBel := (Below.refl w.heap.size w).alloc (Nat.le_refl _) (.cells (vals c) 24)
  generalize hw0 : w.alloc (.cells (vals c) 24) = w0 at *
  clear hw0
  generalize hS : w.heap.size = S at *
  -- the four calls
  (repeat first | refine W_seq ?_ | refine seqQ_normal ?_ | refine W_skip ?_ | refine blkQ_normal ?_); refine W_reg (fun K hK => ?_); simp only [push_cast, Nat.reduceBEq, Nat.reduceAdd, Nat.reduceLT, Nat.reduceEqDiff, reduceIte, reduceCtorEq, Nat.reduceLeDiff, Nat.reduceSub]
  refine ⟨cl5, Ret.mono (start_calls a w0) ?_⟩
  rintro _ waA ⟨rfl, hb1⟩
  rw [retS_eq]
  refine v2s ?_; try simp only [push_cast, Nat.reduceBEq, Nat.reduceAdd, Nat.reduceLT, Nat.reduceEqDiff, reduceIte, reduceCtorEq, Nat.reduceLeDiff, Nat.reduceSub, zt24]
  obtain ⟨wA, hr, hA, hb2, hlt⟩ := newS waA _ (start_len a)
  refine ⟨wA, hr, ?_⟩
  refine v2s ?_; try simp only [push_cast, Nat.reduceBEq, Nat.reduceAdd, Nat.reduceLT, Nat.reduceEqDiff, reduceIte, reduceCtorEq, Nat.reduceLeDiff, Nat.reduceSub]
  refine hK _ _ ?_; clear hK K
  clear hr
  have hs := (hs.up hb1).up hb2
  have hBel := (hBel.trans (hb1.mono (by have := hBel.size; omega))).trans (hb2.mono (by have := hBel.size; have := hb1.size; omega))
  clear hb1 hb2 hlt
  generalize hGA : waA.heap.size = SA at *
  (repeat first | refine W_seq ?_ | refine seqQ_normal ?_ | refine W_skip ?_ | refine blkQ_normal ?_); refine W_reg (fun K hK => ?_); simp only [push_cast, Nat.reduceBEq, Nat.reduceAdd, Nat.reduceLT, Nat.reduceEqDiff, reduceIte, reduceCtorEq, Nat.reduceLeDiff, Nat.reduceSub]
  refine ⟨cl6, Ret.mono (refStart_calls a wA) ?_⟩
  rintro _ waB ⟨rfl, hb1⟩
  rw [retS_eq]
  refine v2s ?_; try simp only [push_cast, Nat.reduceBEq, Nat.reduceAdd, Nat.reduceLT, Nat.reduceEqDiff, reduceIte, reduceCtorEq, Nat.reduceLeDiff, Nat.reduceSub, zt24]
  obtain ⟨wB, hr, hB, hb2, hlt⟩ := newS waB _ (start_len a)
  refine ⟨wB, hr, ?_⟩
  refine v2s ?_; try simp only [push_cast, Nat.reduceBEq, Nat.reduceAdd, Nat.reduceLT, Nat.reduceEqDiff, reduceIte, reduceCtorEq, Nat.reduceLeDiff, Nat.reduceSub]
  refine hK _ _ ?_; clear hK K
  clear hr
  have hs := (hs.up hb1).up hb2
  have hA := (hA.up hb1).up hb2
  have hBel := (hBel.trans (hb1.mono (by have := hBel.size; omega))).trans (hb2.mono (by have := hBel.size; have := hb1.size; omega))
  clear hb1 hb2 hlt
  generalize hGB : waB.heap.size = SB at *
  (repeat first | refine W_seq ?_ | refine seqQ_normal ?_ | refine W_skip ?_ | refine blkQ_normal ?_); refine W_reg (fun K hK => ?_); simp only [push_cast, Nat.reduceBEq, Nat.reduceAdd, Nat.reduceLT, Nat.reduceEqDiff, reduceIte, reduceCtorEq, Nat.reduceLeDiff, Nat.reduceSub, kt24]
  refine ⟨_, hs.cells (by rw [vals_size, hc]), ?_⟩
  refine v2s ?_; try simp only [push_cast, Nat.reduceBEq, Nat.reduceAdd, Nat.reduceLT, Nat.reduceEqDiff, reduceIte, reduceCtorEq, Nat.reduceLeDiff, Nat.reduceSub, kt24]
  refine ⟨cl7, Ret.mono (set_calls c hc word a v wB) ?_⟩
  rintro _ waC ⟨rfl, hb1⟩
  rw [retS_eq]
  refine v2s ?_; try simp only [push_cast, Nat.reduceBEq, Nat.reduceAdd, Nat.reduceLT, Nat.reduceEqDiff, reduceIte, reduceCtorEq, Nat.reduceLeDiff, Nat.reduceSub, zt24]
  obtain ⟨wC, hr, hC, hb2, hlt⟩ := newS waC _ (set_len hc)
  refine ⟨wC, hr, ?_⟩
  refine v2s ?_; try simp only [push_cast, Nat.reduceBEq, Nat.reduceAdd, Nat.reduceLT, Nat.reduceEqDiff, reduceIte, reduceCtorEq, Nat.reduceLeDiff, Nat.reduceSub]
  refine hK _ _ ?_; clear hK K
  clear hr
  have hs := (hs.up hb1).up hb2
  have hA := (hA.up hb1).up hb2
  have hB := (hB.up hb1).up hb2
  have hBel := (hBel.trans (hb1.mono (by have := hBel.size; omega))).trans (hb2.mono (by have := hBel.size; have := hb1.size; omega))
  clear hb1 hb2 hlt
  generalize hGC : waC.heap.size = SC at *
  (repeat first | refine W_seq ?_ | refine seqQ_normal ?_ | refine W_skip ?_ | refine blkQ_normal ?_); refine W_reg (fun K hK => ?_); simp only [push_cast, Nat.reduceBEq, Nat.reduceAdd, Nat.reduceLT, Nat.reduceEqDiff, reduceIte, reduceCtorEq, Nat.reduceLeDiff, Nat.reduceSub, kt24]
  refine ⟨_, hs.cells (by rw [vals_size, hc]), ?_⟩
  refine v2s ?_; try simp only [push_cast, Nat.reduceBEq, Nat.reduceAdd, Nat.reduceLT, Nat.reduceEqDiff, reduceIte, reduceCtorEq, Nat.reduceLeDiff, Nat.reduceSub, kt24]
  refine ⟨cl8, Ret.mono (refSet_calls c hc word a v wC) ?_⟩
  rintro _ waD ⟨rfl, hb1⟩
  rw [retS_eq]
  refine v2s ?_; try simp only [push_cast, Nat.reduceBEq, Nat.reduceAdd, Nat.reduceLT, Nat.reduceEqDiff, reduceIte, reduceCtorEq, Nat.reduceLeDiff, Nat.reduceSub, zt24]
  obtain ⟨wD, hr, hD, hb2, hlt⟩ := newS waD _ (set_len hc)
  refine ⟨wD, hr, ?_⟩
  refine v2s ?_; try simp only [push_cast, Nat.reduceBEq, Nat.reduceAdd, Nat.reduceLT, Nat.reduceEqDiff, reduceIte, reduceCtorEq, Nat.reduceLeDiff, Nat.reduceSub]
  refine hK _ _ ?_; clear hK K
  clear hr
  have hs := (hs.up hb1).up hb2
  have hA := (hA.up hb1).up hb2
  have hB := (hB.up hb1).up hb2
  have hC := (hC.up hb1).up hb2
  have hBel := (hBel.trans (hb1.mono (by have := hBel.size; omega))).trans (hb2.mono (by have := hBel.size; have := hb1.size; omega))
  clear hb1 hb2 hlt
  generalize hGD : waD.heap.size = SD at *
  have lA := start_len a
  have lC := set_len (word := word) (a := a) (v := v) hc
  generalize (startM a).getD zeros = sA at *
  generalize (setM c word a v).getD zeros = sC at *
  generalize (if (startM a).isSome = true then (0 : Int) else 1) = eA at *
  generalize (if (setM c word a v).isSome = true then (0 : Int) else 1) = eC at *
  (repeat first | refine W_seq ?_ | refine seqQ_normal ?_ | refine W_skip ?_ | refine blkQ_normal ?_); refine W_reg (fun K hK => ?_); simp only [push_cast, Nat.reduceBEq, Nat.reduceAdd, Nat.reduceLT, Nat.reduceEqDiff, reduceIte, reduceCtorEq, Nat.reduceLeDiff, Nat.reduceSub]
  refine ⟨cl9, Ret.mono (awake_calls wD) ?_⟩
  rintro _ wE ⟨rfl, hb⟩
  have hA := hA.up hb
  have hB := hB.up hb
  have hC := hC.up hb
  have hD := hD.up hb
  have hBel := hBel.trans (hb.mono (by have := hBel.size; omega))
  refine v2s ?_; try simp only [push_cast, Nat.reduceBEq, Nat.reduceAdd, Nat.reduceLT, Nat.reduceEqDiff, reduceIte, reduceCtorEq, Nat.reduceLeDiff, Nat.reduceSub, kt24]
  refine ⟨_, hA.cells (by rw [vals_size, lA]), ?_⟩
  refine v2s ?_; try simp only [push_cast, Nat.reduceBEq, Nat.reduceAdd, Nat.reduceLT, Nat.reduceEqDiff, reduceIte, reduceCtorEq, Nat.reduceLeDiff, Nat.reduceSub, kt24]
  refine ⟨_, hB.cells (by rw [vals_size, lA]), ?_⟩
  refine v2s ?_; try simp only [push_cast, Nat.reduceBEq, Nat.reduceAdd, Nat.reduceLT, Nat.reduceEqDiff, reduceIte, reduceCtorEq, Nat.reduceLeDiff, Nat.reduceSub, kt24]
  refine ⟨_, eqRefl24 sA lA, ?_⟩
  refine v2s ?_; try simp only [push_cast, Nat.reduceBEq, Nat.reduceAdd, Nat.reduceLT, Nat.reduceEqDiff, reduceIte, reduceCtorEq, Nat.reduceLeDiff, Nat.reduceSub, kt24]
  refine ⟨_, hC.cells (by rw [vals_size, lC]), ?_⟩
  refine v2s ?_; try simp only [push_cast, Nat.reduceBEq, Nat.reduceAdd, Nat.reduceLT, Nat.reduceEqDiff, reduceIte, reduceCtorEq, Nat.reduceLeDiff, Nat.reduceSub, kt24]
  refine ⟨_, hD.cells (by rw [vals_size, lC]), ?_⟩
  refine v2s ?_; try simp only [push_cast, Nat.reduceBEq, Nat.reduceAdd, Nat.reduceLT, Nat.reduceEqDiff, reduceIte, reduceCtorEq, Nat.reduceLeDiff, Nat.reduceSub, kt24]
  refine ⟨_, eqRefl24 sC lC, ?_⟩
  refine v2s ?_; try simp only [push_cast, Nat.reduceBEq, Nat.reduceAdd, Nat.reduceLT, Nat.reduceEqDiff, reduceIte, reduceCtorEq, Nat.reduceLeDiff, Nat.reduceSub, kt24]
  refine hK _ _ ?_; clear hK K
  (repeat first | refine seqQ_ret ?_ | refine seqQ_exit ?_ | refine blkQ_exit ?_ | refine blkQ_other rfl ?_ | refine blkQ_ret ?_ | refine blkQ_normal ?_ | refine W_seq ?_ | refine seqQ_normal ?_ | refine W_skip ?_ | refine W_exit ?_ | refine W_ret ?_)
  simp only [funQ, resE, tup, lk, Nat.reduceEqDiff, reduceIte, reduceCtorEq]
  exact ⟨trivial, hBel⟩

theorem list_set_back (c : List Int) (i : Nat) (v : Int) : (c.set i v).set i (c.getD i 0) = c := by
  rw [List.set_set]
  apply List.ext_getElem?
  intro j
  by_cases h : i = j
  · subst h
    by_cases hl : i < c.length
    · simp [hl]
    · simp [hl]
  · simp [List.getElem?_set_ne h]
/-- Set back: what was, if it may be set. -/
theorem set_back {c : List Int} {word : ByteArray} {a v : Int} {i : Nat} (h1 : 1 ≤ i) (hs : setM c word a v = some (c.set i v)) (hlt : i < c.length) (hv : (c.set i v).getD i 0 = v)
    (hi : ∀ (d : List Int) (u : Int), d.getD 0 0 = c.getD 0 0 → ¬ (u < 0 ∨ 1099511627776 < u) → setM d word a u = some (d.set i u))
    (hr : ¬ (c.getD i 0 < 0 ∨ 1099511627776 < c.getD i 0)) : setM (c.set i v) word a (c.getD i 0) = some c := by
  rw [hi (c.set i v) (c.getD i 0) ?_ hr, list_set_back]
  simp only [List.getD_eq_getElem?_getD]
  rw [List.getElem?_set_ne (by omega)]
def SetAt (c c' : List Int) (word : ByteArray) (a v : Int) (i : Nat) : Prop :=
  1 ≤ i ∧ i < 17 ∧ c' = c.set i v ∧ ∀ (d : List Int) (u : Int), d.getD 0 0 = c.getD 0 0 → ¬ (u < 0 ∨ 1099511627776 < u) → setM d word a u = some (d.set i u)
theorem set_cases {c c' : List Int} {word : ByteArray} {a v : Int} (h : setM c word a v = some c') :
    (word = wQuota ∧ a = 0 ∧ SetAt c c' word a v 1) ∨ (word = wAge ∧ a = 0 ∧ SetAt c c' word a v 2) ∨ (word = wPeriod ∧ 1 ≤ a ∧ a < 7 ∧ SetAt c c' word a v (3 + a.toNat)) ∨ (word = wRoom ∧ 0 ≤ a ∧ a < 7 ∧ SetAt c c' word a v (10 + a.toNat)) := by
  have h' := h
  unfold setM at h
  split at h
  · cases h
  · rename_i hv
    split at h
    · rename_i hq
      split at h
      · rename_i ha
        cases h
        exact .inl ⟨hq, ha, by omega, by omega, rfl, fun d u hd hu => by unfold setM; rw [if_neg hu, if_pos hq, if_pos ha]⟩
      · cases h
    · rename_i hq
      split at h
      · rename_i hg
        split at h
        · rename_i ha
          cases h
          exact .inr (.inl ⟨hg, ha, by omega, by omega, rfl, fun d u hd hu => by unfold setM; rw [if_neg hu, if_neg hq, if_pos hg, if_pos ha]⟩)
        · cases h
      · rename_i hg
        split at h
        · rename_i hp
          split at h
          · cases h
          · rename_i ha
            cases h
            exact .inr (.inr (.inl ⟨hp, by omega, by omega, by omega, by omega, rfl, fun d u hd hu => by unfold setM; rw [if_neg hu, if_neg hq, if_neg hg, if_pos hp, if_neg (by rw [hd]; exact ha)]⟩))
        · rename_i hp
          split at h
          · rename_i hr
            split at h
            · cases h
            · rename_i ha
              cases h
              exact .inr (.inr (.inr ⟨hr, by omega, by omega, by omega, by omega, rfl, fun d u hd hu => by unfold setM; rw [if_neg hu, if_neg hq, if_neg hg, if_neg hp, if_pos hr, if_neg (by rw [hd]; exact ha)]⟩))
          · cases h
set_option maxHeartbeats 1000000 in
set_option maxRecDepth 20000 in
theorem one_calls (c : List Int) (hc : c.length = 17) (word : ByteArray) (a v : Int) (w : World) :
    Calls Try.prog 4 #[.agg (vals c), .string word, .int .i64 a, .int .i64 v] w (Ret fun r w' => r = .bool true ∧ Below w.heap.size w w') := by
  refine calls_W (args := [_, _, _, _]) Try.func4 rfl Try.ntmps4 Try.results4 (by simp) ?_
  (repeat first | refine W_seq ?_ | refine seqQ_normal ?_ | refine W_skip ?_ | refine blkQ_normal ?_); refine W_reg (fun K hK => ?_); simp only [push_cast, Nat.reduceBEq, Nat.reduceAdd, Nat.reduceLT, Nat.reduceEqDiff, reduceIte, reduceCtorEq, Nat.reduceLeDiff, Nat.reduceSub, Value.cells]; refine hK _ _ ?_; clear hK K
  have hs := Blk.new w (vals c) 24
  have hBel := (Below.refl w.heap.size w).alloc (Nat.le_refl _) (.cells (vals c) 24)
  generalize hw0 : w.alloc (.cells (vals c) 24) = w0 at *
  clear hw0
  generalize hS : w.heap.size = S at *
  have hS0 : S < w0.heap.size := hs.lt
  (repeat first | refine W_seq ?_ | refine seqQ_normal ?_ | refine W_skip ?_ | refine blkQ_normal ?_); refine W_reg (fun K hK => ?_); simp only [push_cast, Nat.reduceBEq, Nat.reduceAdd, Nat.reduceLT, Nat.reduceEqDiff, reduceIte, reduceCtorEq, Nat.reduceLeDiff, Nat.reduceSub, kt24]
  refine ⟨_, hs.cells (by rw [vals_size, hc]), ?_⟩
  refine v2s ?_; try simp only [push_cast, Nat.reduceBEq, Nat.reduceAdd, Nat.reduceLT, Nat.reduceEqDiff, reduceIte, reduceCtorEq, Nat.reduceLeDiff, Nat.reduceSub, kt24]
  refine ⟨cl7, Ret.mono (set_calls c hc word a v w0) ?_⟩
  rintro _ wa ⟨rfl, hb1⟩
  rw [retS_eq]
  refine v2s ?_; try simp only [push_cast, Nat.reduceBEq, Nat.reduceAdd, Nat.reduceLT, Nat.reduceEqDiff, reduceIte, reduceCtorEq, Nat.reduceLeDiff, Nat.reduceSub, zt24]
  obtain ⟨w1, hr, hA, hb2, hlt⟩ := newS wa _ (set_len hc)
  refine ⟨w1, hr, ?_⟩
  refine v2s ?_; try simp only [push_cast, Nat.reduceBEq, Nat.reduceAdd, Nat.reduceLT, Nat.reduceEqDiff, reduceIte, reduceCtorEq, Nat.reduceLeDiff, Nat.reduceSub]
  refine hK _ _ ?_; clear hK K
  clear hr
  have hSA : S < wa.heap.size := by have := hb1.size; omega
  have hs := (hs.up hb1).up hb2
  have hBel := (hBel.trans (hb1.mono (by omega))).trans (hb2.mono (by omega))
  generalize hGA : wa.heap.size = A at *
  clear hb1 hb2 hGA
  (repeat first | refine W_seq ?_ | refine seqQ_normal ?_ | refine W_skip ?_ | refine blkQ_normal ?_); refine W_reg (fun K hK => ?_); simp only [push_cast, Nat.reduceBEq, Nat.reduceAdd, Nat.reduceLT, Nat.reduceEqDiff, reduceIte, reduceCtorEq, Nat.reduceLeDiff, Nat.reduceSub]
  refine ⟨cl9, Ret.mono (awake_calls w1) ?_⟩
  rintro _ w2 ⟨rfl, hb3⟩
  have hs := hs.up hb3
  have hA := hA.up hb3
  have hBel := hBel.trans (hb3.mono (by omega))
  have hA2 : A < w2.heap.size := hA.lt
  clear hb3
  cases hm : setM c word a v with
  | none =>
    simp only [hm, Option.isSome_none, Option.getD_none, Bool.false_eq_true, if_false] at hA ⊢
    have h10 : decide ((1 : Int) = 0) = false := by decide
    refine v2s ?_; try simp only [push_cast, Nat.reduceBEq, Nat.reduceAdd, Nat.reduceLT, Nat.reduceEqDiff, reduceIte, reduceCtorEq, Nat.reduceLeDiff, Nat.reduceSub, h10]
    refine hK _ _ ?_; clear hK K
    (repeat first | refine W_seq ?_ | refine seqQ_normal ?_ | refine W_skip ?_ | refine blkQ_normal ?_)
    refine W_true rfl ?_
    (repeat first | refine W_seq ?_ | refine seqQ_normal ?_ | refine W_skip ?_ | refine blkQ_normal ?_); refine W_reg (fun K hK => ?_); simp only [push_cast, Nat.reduceBEq, Nat.reduceAdd, Nat.reduceLT, Nat.reduceEqDiff, reduceIte, reduceCtorEq, Nat.reduceLeDiff, Nat.reduceSub]
    refine ⟨cl9, Ret.mono (awake_calls w2) ?_⟩
    rintro _ w3 ⟨rfl, hb4⟩
    have hA := hA.up hb4
    have hBel := hBel.trans (hb4.mono (by omega))
    refine v2s ?_; try simp only [push_cast, Nat.reduceBEq, Nat.reduceAdd, Nat.reduceLT, Nat.reduceEqDiff, reduceIte, reduceCtorEq, Nat.reduceLeDiff, Nat.reduceSub, kt24]
    refine ⟨_, hA.cells (by rw [vals_size]; rfl), ?_⟩
    refine v2s ?_; try simp only [push_cast, Nat.reduceBEq, Nat.reduceAdd, Nat.reduceLT, Nat.reduceEqDiff, reduceIte, reduceCtorEq, Nat.reduceLeDiff, Nat.reduceSub]
    refine ⟨_, build0, ?_⟩
    refine v2s ?_; try simp only [push_cast, Nat.reduceBEq, Nat.reduceAdd, Nat.reduceLT, Nat.reduceEqDiff, reduceIte, reduceCtorEq, Nat.reduceLeDiff, Nat.reduceSub]
    refine ⟨_, eqRefl24 zeros rfl, ?_⟩
    refine v2s ?_; try simp only [push_cast, Nat.reduceBEq, Nat.reduceAdd, Nat.reduceLT, Nat.reduceEqDiff, reduceIte, reduceCtorEq, Nat.reduceLeDiff, Nat.reduceSub]
    refine hK _ _ ?_; clear hK K
    (repeat first | refine seqQ_ret ?_ | refine seqQ_exit ?_ | refine blkQ_exit ?_ | refine blkQ_other rfl ?_ | refine blkQ_ret ?_ | refine blkQ_normal ?_ | refine W_seq ?_ | refine seqQ_normal ?_ | refine W_skip ?_ | refine W_exit ?_ | refine W_ret ?_)
    simp only [funQ, resE, tup, lk, Nat.reduceEqDiff, reduceIte, reduceCtorEq]
    exact ⟨trivial, hBel⟩
  | some c' =>
    simp only [hm, Option.isSome_some, Option.getD_some, if_true] at hA ⊢
    refine v2s ?_; try simp only [push_cast, Nat.reduceBEq, Nat.reduceAdd, Nat.reduceLT, Nat.reduceEqDiff, reduceIte, reduceCtorEq, Nat.reduceLeDiff, Nat.reduceSub]
    refine hK _ _ ?_; clear hK K
    (repeat first | refine W_seq ?_ | refine seqQ_normal ?_ | refine W_skip ?_ | refine blkQ_normal ?_)
    refine W_false rfl ?_
    have hmm := set_cases hm
    have hc' : c'.length = 17 := by have := set_len (word := word) (a := a) (v := v) hc; rw [hm] at this; exact this
    (repeat first | refine W_seq ?_ | refine seqQ_normal ?_ | refine W_skip ?_ | refine blkQ_normal ?_)
    refine W_keep [1, 2, 3, 4, 9] ?_
    simp only [keep, lk, Nat.reduceEqDiff, reduceIte]
    have g1 : w2.cell? ⟨S, 1, none⟩ = some (.int .i64 (c.getD 1 0)) := by rw [hs.cell]; exact vals_get (by omega)
    have g2 : w2.cell? ⟨A, 1, none⟩ = some (.int .i64 (c'.getD 1 0)) := by rw [hA.cell]; exact vals_get (by omega)
    (repeat first | refine W_seq ?_ | refine seqQ_normal ?_ | refine W_skip ?_ | refine blkQ_normal ?_); refine W_reg (fun K hK => ?_); simp only [push_cast, Nat.reduceBEq, Nat.reduceAdd, Nat.reduceLT, Nat.reduceEqDiff, reduceIte, reduceCtorEq, Nat.reduceLeDiff, Nat.reduceSub, fo1, kt3, g1]; refine hK _ _ ?_; clear hK K
    (repeat first | refine W_seq ?_ | refine seqQ_normal ?_ | refine W_skip ?_ | refine blkQ_normal ?_); refine W_reg (fun K hK => ?_); simp only [push_cast, Nat.reduceBEq, Nat.reduceAdd, Nat.reduceLT, Nat.reduceEqDiff, reduceIte, reduceCtorEq, Nat.reduceLeDiff, Nat.reduceSub, fo1, kt3, g2]; refine hK _ _ ?_; clear hK K
    clear g1 g2
    (repeat first | refine W_seq ?_ | refine seqQ_normal ?_ | refine W_skip ?_ | refine blkQ_normal ?_); refine W_reg (fun K hK => ?_); simp only [push_cast, Nat.reduceBEq, Nat.reduceAdd, Nat.reduceLT, Nat.reduceEqDiff, reduceIte, reduceCtorEq, Nat.reduceLeDiff, Nat.reduceSub, kt24]
    refine ⟨_, hA.cells (by rw [vals_size, hc']), ?_⟩
    refine v2s ?_; try simp only [push_cast, Nat.reduceBEq, Nat.reduceAdd, Nat.reduceLT, Nat.reduceEqDiff, reduceIte, reduceCtorEq, Nat.reduceLeDiff, Nat.reduceSub, zt24]
    obtain ⟨w3, hr, hU, hb4, hlt3⟩ := newS w2 c' hc'
    refine ⟨w3, hr, ?_⟩
    refine v2s ?_; try simp only [push_cast, Nat.reduceBEq, Nat.reduceAdd, Nat.reduceLT, Nat.reduceEqDiff, reduceIte, reduceCtorEq, Nat.reduceLeDiff, Nat.reduceSub]
    refine hK _ _ ?_; clear hK K
    clear hr
    have hs := hs.up hb4
    have hA := hA.up hb4
    have hBel := hBel.trans (hb4.mono (by omega))
    generalize hGU : w2.heap.size = U at *
    clear hb4 hGU
    refine seqQ_normal ?_
    refine W_cut (ι := Nat) (fun i => [(1, .string word), (2, .int .i64 a), (3, .int .i64 v), (4, .pointer (some ⟨S, 0, none⟩)), (9, .pointer (some ⟨A, 0, none⟩)), (11, .int .i64 (c.getD i 0)), (12, .int .i64 (c'.getD i 0)), (13, .pointer (some ⟨U, 0, none⟩))])
      (fun i w' => SetAt c c' word a v i ∧ Blk w' S (vals c) 24 ∧ Blk w' A (vals c') 24 ∧ Blk w' U (vals c) 24 ∧ Below S w w') [1, 2, 3, 4, 9, 11, 12, 13] ?_ ?_
    · (repeat first | refine W_seq ?_ | refine seqQ_normal ?_ | refine W_skip ?_ | refine blkQ_normal ?_); refine W_reg (fun K hK => ?_); simp only [push_cast, Nat.reduceBEq, Nat.reduceAdd, Nat.reduceLT, Nat.reduceEqDiff, reduceIte, reduceCtorEq, Nat.reduceLeDiff, Nat.reduceSub]; refine hK _ _ ?_; clear hK K
      (repeat first | refine W_seq ?_ | refine seqQ_normal ?_ | refine W_skip ?_ | refine blkQ_normal ?_); refine W_block ?_
      rcases hmm with ⟨hw, ha, hi1, hi2, rfl, hi4⟩ | ⟨hw, ha, hi1, hi2, rfl, hi4⟩ | ⟨hw, ha1, ha2, hi1, hi2, rfl, hi4⟩ | ⟨hw, ha1, ha2, hi1, hi2, rfl, hi4⟩
      · have hq : decide (word = { data := #[113, 117, 111, 116, 97] }) = true := by rw [hw]; decide
        have cS : w3.cell? ⟨S, 1, none⟩ = some (.int .i64 (c.getD 1 0)) := by rw [hs.cell]; exact vals_get (by omega)
        (repeat first | refine W_seq ?_ | refine seqQ_normal ?_ | refine W_skip ?_ | refine blkQ_normal ?_); refine W_reg (fun K hK => ?_); simp only [push_cast, Nat.reduceBEq, Nat.reduceAdd, Nat.reduceLT, Nat.reduceEqDiff, reduceIte, reduceCtorEq, Nat.reduceLeDiff, Nat.reduceSub, hq]; refine hK _ _ ?_; clear hK K
        (repeat first | refine W_seq ?_ | refine seqQ_normal ?_ | refine W_skip ?_ | refine blkQ_normal ?_); refine W_true rfl ?_
        (repeat first | refine W_seq ?_ | refine seqQ_normal ?_ | refine W_skip ?_ | refine blkQ_normal ?_); refine W_reg (fun K hK => ?_); simp only [push_cast, Nat.reduceBEq, Nat.reduceAdd, Nat.reduceLT, Nat.reduceEqDiff, reduceIte, reduceCtorEq, Nat.reduceLeDiff, Nat.reduceSub, fo1, kt3, ua22, cS]
        obtain ⟨w5, hr5, hU5, ho5⟩ := store1 (P := Try.prog) (ty := 3) (i := 1) (v := .int .i64 (c.getD (1) 0)) hU kt3 rfl (by rw [vals_size, hc']; omega)
        rw [vals_set, list_set_back] at hU5
        refine ⟨w5, hr5, ?_⟩
        refine v2s ?_; try simp only [push_cast, Nat.reduceBEq, Nat.reduceAdd, Nat.reduceLT, Nat.reduceEqDiff, reduceIte, reduceCtorEq, Nat.reduceLeDiff, Nat.reduceSub]
        refine hK _ _ ?_; clear hK K
        (repeat first | refine seqQ_ret ?_ | refine seqQ_exit ?_ | refine blkQ_exit ?_ | refine blkQ_other rfl ?_ | refine blkQ_ret ?_ | refine blkQ_normal ?_ | refine W_seq ?_ | refine seqQ_normal ?_ | refine W_skip ?_ | refine W_exit ?_ | refine W_ret ?_)
        exact ⟨1, rfl, ⟨hi1, hi2, rfl, hi4⟩, hs.only ho5 (by omega), hA.only ho5 (by omega), hU5, ho5.below hBel (by omega)⟩
      · have hq : decide (word = { data := #[113, 117, 111, 116, 97] }) = false := by rw [hw]; decide
        have hg : decide (word = { data := #[97, 103, 101] }) = true := by rw [hw]; decide
        have cS : w3.cell? ⟨S, 2, none⟩ = some (.int .i64 (c.getD 2 0)) := by rw [hs.cell]; exact vals_get (by omega)
        have cA : w3.cell? ⟨A, 2, none⟩ = some (.int .i64 ((c.set 2 v).getD 2 0)) := by rw [hA.cell]; exact vals_get (by omega)
        (repeat first | refine W_seq ?_ | refine seqQ_normal ?_ | refine W_skip ?_ | refine blkQ_normal ?_); refine W_reg (fun K hK => ?_); simp only [push_cast, Nat.reduceBEq, Nat.reduceAdd, Nat.reduceLT, Nat.reduceEqDiff, reduceIte, reduceCtorEq, Nat.reduceLeDiff, Nat.reduceSub, hq]; refine hK _ _ ?_; clear hK K
        (repeat first | refine W_seq ?_ | refine seqQ_normal ?_ | refine W_skip ?_ | refine blkQ_normal ?_); refine W_false rfl ?_
        (repeat first | refine W_seq ?_ | refine seqQ_normal ?_ | refine W_skip ?_ | refine blkQ_normal ?_); refine W_reg (fun K hK => ?_); simp only [push_cast, Nat.reduceBEq, Nat.reduceAdd, Nat.reduceLT, Nat.reduceEqDiff, reduceIte, reduceCtorEq, Nat.reduceLeDiff, Nat.reduceSub, hg]; refine hK _ _ ?_; clear hK K
        (repeat first | refine W_seq ?_ | refine seqQ_normal ?_ | refine W_skip ?_ | refine blkQ_normal ?_); refine W_true rfl ?_
        (repeat first | refine W_seq ?_ | refine seqQ_normal ?_ | refine W_skip ?_ | refine blkQ_normal ?_)
        refine W_keep [1, 2, 3, 4, 9, 13] ?_
        simp only [keep, lk, Nat.reduceEqDiff, reduceIte]
        (repeat first | refine W_seq ?_ | refine seqQ_normal ?_ | refine W_skip ?_ | refine blkQ_normal ?_); refine W_drw [1, 2, 3, 4, 9, 13] 6 mixed rfl (by kernel_rfl) (fun K hK => ?_); simp only [push_cast, Nat.reduceBEq, Nat.reduceAdd, Nat.reduceLT, Nat.reduceEqDiff, reduceIte, reduceCtorEq, Nat.reduceLeDiff, Nat.reduceSub, fo2, kt3, cS, cA]
        intro w4 hb4
        refine v2s ?_; try simp only [push_cast, Nat.reduceBEq, Nat.reduceAdd, Nat.reduceLT, Nat.reduceEqDiff, reduceIte, reduceCtorEq, Nat.reduceLeDiff, Nat.reduceSub]
        refine hK _ _ ?_; clear hK K
        have cS := below_cell hb4 cS
        have hs := hs.up hb4
        have hA := hA.up hb4
        have hU := hU.up hb4
        have hBel := hBel.trans (hb4.mono (by omega))
        clear hb4
        (repeat first | refine W_seq ?_ | refine seqQ_normal ?_ | refine W_skip ?_ | refine blkQ_normal ?_); refine W_reg (fun K hK => ?_); simp only [push_cast, Nat.reduceBEq, Nat.reduceAdd, Nat.reduceLT, Nat.reduceEqDiff, reduceIte, reduceCtorEq, Nat.reduceLeDiff, Nat.reduceSub, fo2, kt3, ua22, cS]
        obtain ⟨w5, hr5, hU5, ho5⟩ := store1 (P := Try.prog) (ty := 3) (i := 2) (v := .int .i64 (c.getD (2) 0)) hU kt3 rfl (by rw [vals_size, hc']; omega)
        rw [vals_set, list_set_back] at hU5
        refine ⟨w5, hr5, ?_⟩
        refine v2s ?_; try simp only [push_cast, Nat.reduceBEq, Nat.reduceAdd, Nat.reduceLT, Nat.reduceEqDiff, reduceIte, reduceCtorEq, Nat.reduceLeDiff, Nat.reduceSub]
        refine hK _ _ ?_; clear hK K
        (repeat first | refine seqQ_ret ?_ | refine seqQ_exit ?_ | refine blkQ_exit ?_ | refine blkQ_other rfl ?_ | refine blkQ_ret ?_ | refine blkQ_normal ?_ | refine W_seq ?_ | refine seqQ_normal ?_ | refine W_skip ?_ | refine W_exit ?_ | refine W_ret ?_)
        exact ⟨2, rfl, ⟨hi1, hi2, rfl, hi4⟩, hs.only ho5 (by omega), hA.only ho5 (by omega), hU5, ho5.below hBel (by omega)⟩
      · have hq : decide (word = { data := #[113, 117, 111, 116, 97] }) = false := by rw [hw]; decide
        have hg : decide (word = { data := #[97, 103, 101] }) = false := by rw [hw]; decide
        have hp : decide (word = { data := #[112, 101, 114, 105, 111, 100] }) = true := by rw [hw]; decide
        have h1 : decide (a < 1) = false := decide_eq_false (by omega)
        have h2 : decide (6 < a) = false := decide_eq_false (by omega)
        have cS : w3.cell? ⟨S, 3 + a.toNat, none⟩ = some (.int .i64 (c.getD (3 + a.toNat) 0)) := by rw [hs.cell]; exact vals_get (by omega)
        have cA : w3.cell? ⟨A, 3 + a.toNat, none⟩ = some (.int .i64 ((c.set (3 + a.toNat) v).getD (3 + a.toNat) 0)) := by rw [hA.cell]; exact vals_get (by omega)
        (repeat first | refine W_seq ?_ | refine seqQ_normal ?_ | refine W_skip ?_ | refine blkQ_normal ?_); refine W_reg (fun K hK => ?_); simp only [push_cast, Nat.reduceBEq, Nat.reduceAdd, Nat.reduceLT, Nat.reduceEqDiff, reduceIte, reduceCtorEq, Nat.reduceLeDiff, Nat.reduceSub, hq]; refine hK _ _ ?_; clear hK K
        (repeat first | refine W_seq ?_ | refine seqQ_normal ?_ | refine W_skip ?_ | refine blkQ_normal ?_); refine W_false rfl ?_
        (repeat first | refine W_seq ?_ | refine seqQ_normal ?_ | refine W_skip ?_ | refine blkQ_normal ?_); refine W_reg (fun K hK => ?_); simp only [push_cast, Nat.reduceBEq, Nat.reduceAdd, Nat.reduceLT, Nat.reduceEqDiff, reduceIte, reduceCtorEq, Nat.reduceLeDiff, Nat.reduceSub, hg]; refine hK _ _ ?_; clear hK K
        (repeat first | refine W_seq ?_ | refine seqQ_normal ?_ | refine W_skip ?_ | refine blkQ_normal ?_); refine W_false rfl ?_
        (repeat first | refine W_seq ?_ | refine seqQ_normal ?_ | refine W_skip ?_ | refine blkQ_normal ?_); refine W_reg (fun K hK => ?_); simp only [push_cast, Nat.reduceBEq, Nat.reduceAdd, Nat.reduceLT, Nat.reduceEqDiff, reduceIte, reduceCtorEq, Nat.reduceLeDiff, Nat.reduceSub, hp]; refine hK _ _ ?_; clear hK K
        (repeat first | refine W_seq ?_ | refine seqQ_normal ?_ | refine W_skip ?_ | refine blkQ_normal ?_); refine W_true rfl ?_
        (repeat first | refine W_seq ?_ | refine seqQ_normal ?_ | refine W_skip ?_ | refine blkQ_normal ?_); refine W_reg (fun K hK => ?_); simp only [push_cast, Nat.reduceBEq, Nat.reduceAdd, Nat.reduceLT, Nat.reduceEqDiff, reduceIte, reduceCtorEq, Nat.reduceLeDiff, Nat.reduceSub, h1, h2]; refine hK _ _ ?_; clear hK K
        (repeat first | refine W_seq ?_ | refine seqQ_normal ?_ | refine W_skip ?_ | refine blkQ_normal ?_); refine W_false rfl ?_
        (repeat first | refine W_seq ?_ | refine seqQ_normal ?_ | refine W_skip ?_ | refine blkQ_normal ?_)
        refine W_keep [1, 2, 3, 4, 9, 13] ?_
        simp only [keep, lk, Nat.reduceEqDiff, reduceIte]
        (repeat first | refine W_seq ?_ | refine seqQ_normal ?_ | refine W_skip ?_ | refine blkQ_normal ?_); refine W_drw [1, 2, 3, 4, 9, 13] 10 mixed rfl (by kernel_rfl) (fun K hK => ?_); simp only [push_cast, Nat.reduceBEq, Nat.reduceAdd, Nat.reduceLT, Nat.reduceEqDiff, reduceIte, reduceCtorEq, Nat.reduceLeDiff, Nat.reduceSub, fo3, kt3, ua22, cS, cA]
        refine ⟨by omega, by omega, ?_⟩
        intro w4 hb4
        refine v2s ?_; try simp only [push_cast, Nat.reduceBEq, Nat.reduceAdd, Nat.reduceLT, Nat.reduceEqDiff, reduceIte, reduceCtorEq, Nat.reduceLeDiff, Nat.reduceSub]
        refine hK _ _ ?_; clear hK K
        have cS := below_cell hb4 cS
        have hs := hs.up hb4
        have hA := hA.up hb4
        have hU := hU.up hb4
        have hBel := hBel.trans (hb4.mono (by omega))
        clear hb4
        (repeat first | refine W_seq ?_ | refine seqQ_normal ?_ | refine W_skip ?_ | refine blkQ_normal ?_); refine W_reg (fun K hK => ?_); simp only [push_cast, Nat.reduceBEq, Nat.reduceAdd, Nat.reduceLT, Nat.reduceEqDiff, reduceIte, reduceCtorEq, Nat.reduceLeDiff, Nat.reduceSub, fo3, kt3, ua22, cS]
        obtain ⟨w5, hr5, hU5, ho5⟩ := store1 (P := Try.prog) (ty := 3) (i := 3 + a.toNat) (v := .int .i64 (c.getD (3 + a.toNat) 0)) hU kt3 rfl (by rw [vals_size, hc']; omega)
        rw [vals_set, list_set_back] at hU5
        refine ⟨by omega, w5, hr5, ?_⟩
        refine v2s ?_; try simp only [push_cast, Nat.reduceBEq, Nat.reduceAdd, Nat.reduceLT, Nat.reduceEqDiff, reduceIte, reduceCtorEq, Nat.reduceLeDiff, Nat.reduceSub]
        refine hK _ _ ?_; clear hK K
        (repeat first | refine seqQ_ret ?_ | refine seqQ_exit ?_ | refine blkQ_exit ?_ | refine blkQ_other rfl ?_ | refine blkQ_ret ?_ | refine blkQ_normal ?_ | refine W_seq ?_ | refine seqQ_normal ?_ | refine W_skip ?_ | refine W_exit ?_ | refine W_ret ?_)
        exact ⟨3 + a.toNat, rfl, ⟨hi1, hi2, rfl, hi4⟩, hs.only ho5 (by omega), hA.only ho5 (by omega), hU5, ho5.below hBel (by omega)⟩
      · have hq : decide (word = { data := #[113, 117, 111, 116, 97] }) = false := by rw [hw]; decide
        have hg : decide (word = { data := #[97, 103, 101] }) = false := by rw [hw]; decide
        have hp : decide (word = { data := #[112, 101, 114, 105, 111, 100] }) = false := by rw [hw]; decide
        have hr : decide (word = { data := #[114, 111, 111, 109] }) = true := by rw [hw]; decide
        have h1 : decide (a < 0) = false := decide_eq_false (by omega)
        have h2 : decide (6 < a) = false := decide_eq_false (by omega)
        have cS : w3.cell? ⟨S, 10 + a.toNat, none⟩ = some (.int .i64 (c.getD (10 + a.toNat) 0)) := by rw [hs.cell]; exact vals_get (by omega)
        have cA : w3.cell? ⟨A, 10 + a.toNat, none⟩ = some (.int .i64 ((c.set (10 + a.toNat) v).getD (10 + a.toNat) 0)) := by rw [hA.cell]; exact vals_get (by omega)
        (repeat first | refine W_seq ?_ | refine seqQ_normal ?_ | refine W_skip ?_ | refine blkQ_normal ?_); refine W_reg (fun K hK => ?_); simp only [push_cast, Nat.reduceBEq, Nat.reduceAdd, Nat.reduceLT, Nat.reduceEqDiff, reduceIte, reduceCtorEq, Nat.reduceLeDiff, Nat.reduceSub, hq]; refine hK _ _ ?_; clear hK K
        (repeat first | refine W_seq ?_ | refine seqQ_normal ?_ | refine W_skip ?_ | refine blkQ_normal ?_); refine W_false rfl ?_
        (repeat first | refine W_seq ?_ | refine seqQ_normal ?_ | refine W_skip ?_ | refine blkQ_normal ?_); refine W_reg (fun K hK => ?_); simp only [push_cast, Nat.reduceBEq, Nat.reduceAdd, Nat.reduceLT, Nat.reduceEqDiff, reduceIte, reduceCtorEq, Nat.reduceLeDiff, Nat.reduceSub, hg]; refine hK _ _ ?_; clear hK K
        (repeat first | refine W_seq ?_ | refine seqQ_normal ?_ | refine W_skip ?_ | refine blkQ_normal ?_); refine W_false rfl ?_
        (repeat first | refine W_seq ?_ | refine seqQ_normal ?_ | refine W_skip ?_ | refine blkQ_normal ?_); refine W_reg (fun K hK => ?_); simp only [push_cast, Nat.reduceBEq, Nat.reduceAdd, Nat.reduceLT, Nat.reduceEqDiff, reduceIte, reduceCtorEq, Nat.reduceLeDiff, Nat.reduceSub, hp]; refine hK _ _ ?_; clear hK K
        (repeat first | refine W_seq ?_ | refine seqQ_normal ?_ | refine W_skip ?_ | refine blkQ_normal ?_); refine W_false rfl ?_
        (repeat first | refine W_seq ?_ | refine seqQ_normal ?_ | refine W_skip ?_ | refine blkQ_normal ?_); refine W_reg (fun K hK => ?_); simp only [push_cast, Nat.reduceBEq, Nat.reduceAdd, Nat.reduceLT, Nat.reduceEqDiff, reduceIte, reduceCtorEq, Nat.reduceLeDiff, Nat.reduceSub, hr]; refine hK _ _ ?_; clear hK K
        (repeat first | refine W_seq ?_ | refine seqQ_normal ?_ | refine W_skip ?_ | refine blkQ_normal ?_); refine W_true rfl ?_
        (repeat first | refine W_seq ?_ | refine seqQ_normal ?_ | refine W_skip ?_ | refine blkQ_normal ?_); refine W_reg (fun K hK => ?_); simp only [push_cast, Nat.reduceBEq, Nat.reduceAdd, Nat.reduceLT, Nat.reduceEqDiff, reduceIte, reduceCtorEq, Nat.reduceLeDiff, Nat.reduceSub, h1, h2]; refine hK _ _ ?_; clear hK K
        (repeat first | refine W_seq ?_ | refine seqQ_normal ?_ | refine W_skip ?_ | refine blkQ_normal ?_); refine W_false rfl ?_
        (repeat first | refine W_seq ?_ | refine seqQ_normal ?_ | refine W_skip ?_ | refine blkQ_normal ?_)
        refine W_keep [1, 2, 3, 4, 9, 13] ?_
        simp only [keep, lk, Nat.reduceEqDiff, reduceIte]
        (repeat first | refine W_seq ?_ | refine seqQ_normal ?_ | refine W_skip ?_ | refine blkQ_normal ?_); refine W_drw [1, 2, 3, 4, 9, 13] 10 mixed rfl (by kernel_rfl) (fun K hK => ?_); simp only [push_cast, Nat.reduceBEq, Nat.reduceAdd, Nat.reduceLT, Nat.reduceEqDiff, reduceIte, reduceCtorEq, Nat.reduceLeDiff, Nat.reduceSub, fo4, kt3, ua22, cS, cA]
        refine ⟨by omega, by omega, ?_⟩
        intro w4 hb4
        refine v2s ?_; try simp only [push_cast, Nat.reduceBEq, Nat.reduceAdd, Nat.reduceLT, Nat.reduceEqDiff, reduceIte, reduceCtorEq, Nat.reduceLeDiff, Nat.reduceSub]
        refine hK _ _ ?_; clear hK K
        have cS := below_cell hb4 cS
        have hs := hs.up hb4
        have hA := hA.up hb4
        have hU := hU.up hb4
        have hBel := hBel.trans (hb4.mono (by omega))
        clear hb4
        (repeat first | refine W_seq ?_ | refine seqQ_normal ?_ | refine W_skip ?_ | refine blkQ_normal ?_); refine W_reg (fun K hK => ?_); simp only [push_cast, Nat.reduceBEq, Nat.reduceAdd, Nat.reduceLT, Nat.reduceEqDiff, reduceIte, reduceCtorEq, Nat.reduceLeDiff, Nat.reduceSub, fo4, kt3, ua22, cS]
        obtain ⟨w5, hr5, hU5, ho5⟩ := store1 (P := Try.prog) (ty := 3) (i := 10 + a.toNat) (v := .int .i64 (c.getD (10 + a.toNat) 0)) hU kt3 rfl (by rw [vals_size, hc']; omega)
        rw [vals_set, list_set_back] at hU5
        refine ⟨by omega, w5, hr5, ?_⟩
        refine v2s ?_; try simp only [push_cast, Nat.reduceBEq, Nat.reduceAdd, Nat.reduceLT, Nat.reduceEqDiff, reduceIte, reduceCtorEq, Nat.reduceLeDiff, Nat.reduceSub]
        refine hK _ _ ?_; clear hK K
        (repeat first | refine seqQ_ret ?_ | refine seqQ_exit ?_ | refine blkQ_exit ?_ | refine blkQ_other rfl ?_ | refine blkQ_ret ?_ | refine blkQ_normal ?_ | refine W_seq ?_ | refine seqQ_normal ?_ | refine W_skip ?_ | refine W_exit ?_ | refine W_ret ?_)
        exact ⟨10 + a.toNat, rfl, ⟨hi1, hi2, rfl, hi4⟩, hs.only ho5 (by omega), hA.only ho5 (by omega), hU5, ho5.below hBel (by omega)⟩
    rintro i w4 ⟨⟨hi1, hi2, rfl, hi4⟩, hs, hA, hU, hBel⟩
    have hget : (c.set i v).getD i 0 = v := by simp [hc, hi2]
    (repeat first | refine W_seq ?_ | refine seqQ_normal ?_ | refine W_skip ?_ | refine blkQ_normal ?_); refine W_reg (fun K hK => ?_); simp only [push_cast, Nat.reduceBEq, Nat.reduceAdd, Nat.reduceLT, Nat.reduceEqDiff, reduceIte, reduceCtorEq, Nat.reduceLeDiff, Nat.reduceSub, hget, kt24]
    refine ⟨_, hU.cells (by rw [vals_size, hc]), ?_⟩
    refine v2s ?_; try simp only [push_cast, Nat.reduceBEq, Nat.reduceAdd, Nat.reduceLT, Nat.reduceEqDiff, reduceIte, reduceCtorEq, Nat.reduceLeDiff, Nat.reduceSub, kt24]
    refine ⟨_, hs.cells (by rw [vals_size, hc]), ?_⟩
    refine v2s ?_; try simp only [push_cast, Nat.reduceBEq, Nat.reduceAdd, Nat.reduceLT, Nat.reduceEqDiff, reduceIte, reduceCtorEq, Nat.reduceLeDiff, Nat.reduceSub]
    refine ⟨_, eqRefl24 c hc, ?_⟩
    refine v2s ?_; try simp only [push_cast, Nat.reduceBEq, Nat.reduceAdd, Nat.reduceLT, Nat.reduceEqDiff, reduceIte, reduceCtorEq, Nat.reduceLeDiff, Nat.reduceSub]
    refine hK _ _ ?_; clear hK K
    (repeat first | refine W_seq ?_ | refine seqQ_normal ?_ | refine W_skip ?_ | refine blkQ_normal ?_); refine W_false rfl ?_
    (repeat first | refine W_seq ?_ | refine seqQ_normal ?_ | refine W_skip ?_ | refine blkQ_normal ?_); refine W_reg (fun K hK => ?_); simp only [push_cast, Nat.reduceBEq, Nat.reduceAdd, Nat.reduceLT, Nat.reduceEqDiff, reduceIte, reduceCtorEq, Nat.reduceLeDiff, Nat.reduceSub, kt24]
    refine ⟨_, hA.cells (by rw [vals_size, hc']), ?_⟩
    refine v2s ?_; try simp only [push_cast, Nat.reduceBEq, Nat.reduceAdd, Nat.reduceLT, Nat.reduceEqDiff, reduceIte, reduceCtorEq, Nat.reduceLeDiff, Nat.reduceSub, kt24]
    refine ⟨cl7, Ret.mono (set_calls (c.set i v) hc' word a (c.getD i 0) w4) ?_⟩
    rintro _ w5 ⟨rfl, hb5⟩
    rw [retS_eq]
    refine v2s ?_; try simp only [push_cast, Nat.reduceBEq, Nat.reduceAdd, Nat.reduceLT, Nat.reduceEqDiff, reduceIte, reduceCtorEq, Nat.reduceLeDiff, Nat.reduceSub, zt24]
    obtain ⟨w6, hr, hN, hb6, hlt6⟩ := newS w5 _ (set_len hc')
    refine ⟨w6, hr, ?_⟩
    refine v2s ?_; try simp only [push_cast, Nat.reduceBEq, Nat.reduceAdd, Nat.reduceLT, Nat.reduceEqDiff, reduceIte, reduceCtorEq, Nat.reduceLeDiff, Nat.reduceSub]
    refine hK _ _ ?_; clear hK K
    clear hr
    have hs4 : S < w4.heap.size := hs.lt
    have hs5 : S < w5.heap.size := by have := hb5.size; omega
    have hs := (hs.up hb5).up hb6
    have hBel := (hBel.trans (hb5.mono (by omega))).trans (hb6.mono (by omega))
    generalize hGN : w5.heap.size = M at *
    by_cases hr : c.getD i 0 < 0 ∨ 1099511627776 < c.getD i 0
    · cases h1 : decide (c.getD i 0 < 0)
      · have h2 : decide (1099511627776 < c.getD i 0) = true := decide_eq_true (hr.resolve_left (of_decide_eq_false h1))
        (repeat first | refine W_seq ?_ | refine seqQ_normal ?_ | refine W_skip ?_ | refine blkQ_normal ?_); refine W_reg (fun K hK => ?_); simp only [push_cast, Nat.reduceBEq, Nat.reduceAdd, Nat.reduceLT, Nat.reduceEqDiff, reduceIte, reduceCtorEq, Nat.reduceLeDiff, Nat.reduceSub, h1, h2]; refine hK _ _ ?_; clear hK K
        (repeat first | refine seqQ_ret ?_ | refine seqQ_exit ?_ | refine blkQ_exit ?_ | refine blkQ_other rfl ?_ | refine blkQ_ret ?_ | refine blkQ_normal ?_ | refine W_seq ?_ | refine seqQ_normal ?_ | refine W_skip ?_ | refine W_exit ?_ | refine W_ret ?_)
        simp only [funQ, resE, tup, lk, Nat.reduceEqDiff, reduceIte, reduceCtorEq]
        exact ⟨trivial, hBel⟩
      · (repeat first | refine W_seq ?_ | refine seqQ_normal ?_ | refine W_skip ?_ | refine blkQ_normal ?_); refine W_reg (fun K hK => ?_); simp only [push_cast, Nat.reduceBEq, Nat.reduceAdd, Nat.reduceLT, Nat.reduceEqDiff, reduceIte, reduceCtorEq, Nat.reduceLeDiff, Nat.reduceSub, h1]; refine hK _ _ ?_; clear hK K
        (repeat first | refine seqQ_ret ?_ | refine seqQ_exit ?_ | refine blkQ_exit ?_ | refine blkQ_other rfl ?_ | refine blkQ_ret ?_ | refine blkQ_normal ?_ | refine W_seq ?_ | refine seqQ_normal ?_ | refine W_skip ?_ | refine W_exit ?_ | refine W_ret ?_)
        simp only [funQ, resE, tup, lk, Nat.reduceEqDiff, reduceIte, reduceCtorEq]
        exact ⟨trivial, hBel⟩
    · have h1 : decide (c.getD i 0 < 0) = false := decide_eq_false (by omega)
      have h2 : decide (1099511627776 < c.getD i 0) = false := decide_eq_false (by omega)
      have hback := set_back hi1 hm (by omega) hget hi4 hr
      simp only [hback, Option.getD_some, Option.isSome_some, if_true] at hN ⊢
      (repeat first | refine W_seq ?_ | refine seqQ_normal ?_ | refine W_skip ?_ | refine blkQ_normal ?_); refine W_reg (fun K hK => ?_); simp only [push_cast, Nat.reduceBEq, Nat.reduceAdd, Nat.reduceLT, Nat.reduceEqDiff, reduceIte, reduceCtorEq, Nat.reduceLeDiff, Nat.reduceSub, h1, h2, kt24]
      refine ⟨_, hN.cells (by rw [vals_size, hc]), ?_⟩
      refine v2s ?_; try simp only [push_cast, Nat.reduceBEq, Nat.reduceAdd, Nat.reduceLT, Nat.reduceEqDiff, reduceIte, reduceCtorEq, Nat.reduceLeDiff, Nat.reduceSub, kt24]
      refine ⟨_, hs.cells (by rw [vals_size, hc]), ?_⟩
      refine v2s ?_; try simp only [push_cast, Nat.reduceBEq, Nat.reduceAdd, Nat.reduceLT, Nat.reduceEqDiff, reduceIte, reduceCtorEq, Nat.reduceLeDiff, Nat.reduceSub]
      refine ⟨_, eqRefl24 c hc, ?_⟩
      refine v2s ?_; try simp only [push_cast, Nat.reduceBEq, Nat.reduceAdd, Nat.reduceLT, Nat.reduceEqDiff, reduceIte, reduceCtorEq, Nat.reduceLeDiff, Nat.reduceSub]
      refine hK _ _ ?_; clear hK K
      (repeat first | refine seqQ_ret ?_ | refine seqQ_exit ?_ | refine blkQ_exit ?_ | refine blkQ_other rfl ?_ | refine blkQ_ret ?_ | refine blkQ_normal ?_ | refine W_seq ?_ | refine seqQ_normal ?_ | refine W_skip ?_ | refine W_exit ?_ | refine W_ret ?_)
      simp only [funQ, resE, tup, lk, Nat.reduceEqDiff, reduceIte, reduceCtorEq]
      exact ⟨trivial, hBel⟩
end Go.Proofs.Ytmllbocjcllmpaa
