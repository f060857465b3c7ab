/- What the walk of the law stands on. -/
import Derived.Test.YtlfenddhppoflaaDiff
set_option linter.unusedSimpArgs false
set_option linter.unusedVariables false
set_option maxRecDepth 20000
namespace Go.Proofs.Ytlfenddhppoflaa
open Go Go.Eng Go.RowKit Go.DiffM
attribute [local push_cast] lk_nil lk_cons ev_tmp ev_const ev_global ev_func evs_nil evs_cons stp_some stp_none dsts_nil dsts_cons argsE_nil argsE_cons intBin_add intBin_sub intBin_mul intBin_quo intBin_rem intBin_and intBin_or intBin_xor intBin_andNot intBin_eql intBin_neq intBin_lss intBin_leq intBin_gtr intBin_geq intBin_shl intBin_shr strBin_add strBin_eql strBin_neq strBin_lss strBin_leq strBin_gtr strBin_geq pureBin_int pureBin_str pureBin_beq pureBin_bne pureBin_peq pureBin_pne pureBin_seq pureBin_sne pureBin_agg effEq_eql effEq_neq pureUn_not pureUn_neg pureUn_xor pureConv_int pureConv_str pureField_eq pureIndexAddr_s pureIndexAddr_p pureIndex_s oInt_none oInt_some pureSlice_str pureSlice_sl pureB_len pureB_lens pureB_cap pureB_max pureB_min pureB_app pureB_copy po_move po_assign po_pick po_bin po_un po_conv po_field po_extract po_faddr po_iaddr po_index po_slice po_nil po_builtin po_call po_load po_store po_alloc po_box po_build po_buildS po_makeS eo_load eo_store eo_build eo_buildS eo_makeS eo_app eo_call eo_bin eq_load eq_build eq_call eq_bin parts_nil parts_cons outG_none outG_some dstOk_none dstOk_some out_eq outR_eq outOp_eq outQ_eq imm_load immQ_load imm_alloc imm_box imm_store imm_build imm_call imm_bin immQ_build immQ_call immQ_bin imm_buildS imm_makeS v2_nil v2_cons vq_nil vq_cons undef_eq
attribute [local push_cast] List.take_succ_cons List.take_zero List.drop_succ_cons List.drop_zero true_and and_true Option.isSome_some List.getElem?_cons_zero List.getElem?_cons_succ List.length_cons List.length_nil cond_true cond_false Int.toNat_natCast Nat.mul_one Nat.add_zero Nat.zero_add Addr.add_lit bne_self_eq_false beq_self_eq_true Bool.not_true Bool.not_false List.size_toArray Array.getD_eq_getD_getElem? List.getElem?_toArray Option.getD_some decide_true decide_false eq_self Bool.true_beq Bool.false_beq
def eCells (l : List (Nat × Nat)) : List Value := l.flatMap fun r => [.int .i64 r.1, .int .i64 r.2]
theorem eCells_len (l : List (Nat × Nat)) : (eCells l).length = l.length * 2 := by
 induction l with
 | nil => rfl
 | cons r t ih => simp only [eCells, List.flatMap_cons, List.length_append, List.length_cons, List.length_nil] at ih ⊢; omega
theorem eCells_app (l m : List (Nat × Nat)) : eCells (l ++ m) = eCells l ++ eCells m := by simp [eCells]
theorem eCells_one (l : List (Nat × Nat)) (k : Nat) (h : k < l.length) : (eCells l)[k * 2]? = some (.int .i64 l[k].1) ∧ (eCells l)[k * 2 + 1]? = some (.int .i64 l[k].2) := by
 induction l generalizing k with
 | nil => simp at h
 | cons r t ih =>
  cases k with
  | zero => simp [eCells]
  | succ k =>
   have := ih k (by simpa using h)
   simp only [eCells, List.flatMap_cons, List.cons_append, List.nil_append, List.getElem_cons_succ] at this ⊢
   rw [show (k + 1) * 2 = k * 2 + 1 + 1 by omega]
   exact this
def EditsAt (w : World) (base : Nat) (v : Value) (l : List (Nat × Nat)) : Prop := Own w base 29 2 v l.length (eCells l)
theorem us23 : uSlice Try.prog 23 = some (29, 2) := by kernel_rfl
theorem se23 : seOf Try.prog 23 = some (29, 2, 16, #[.int .i64 0, .int .i64 0]) := by kernel_rfl
theorem fo290 : fOff Try.prog 29 0 = some 0 := by kernel_rfl
theorem fo291 : fOff Try.prog 29 1 = some 1 := by kernel_rfl
theorem kt29 : kindT Try.prog 29 = some (some 2) := by kernel_rfl
theorem build29 (x y : Int) : ∀ w : World, (Instr.build 29 #[(0, .int .i64 x), (1, .int .i64 y)]).run Try.prog w = .ok (.agg #[.int .i64 x, .int .i64 y]) w := fun w => by kernel_rfl

theorem eCells_bump (l : List (Nat × Nat)) (o c d : Nat) : (eCells (l ++ [(o, c)])).set (l.length * 2 + 1) (.int .i64 d) = eCells (l ++ [(o, d)]) := by
 rw [eCells_app, eCells_app, List.set_append_right _ _ (by rw [eCells_len]; omega), eCells_len, show l.length * 2 + 1 - l.length * 2 = 1 by omega]
 rfl
theorem fill1 (x y : Int) : Instr.fill (fun i => some (i * 2, 2)) ((Array.range (1 * 2)).map ((#[.int .i64 0, .int .i64 0] : Array Value)[· % (#[.int .i64 0, .int .i64 0] : Array Value).size]!)) #[(0, Value.agg #[.int .i64 x, .int .i64 y])].toList = some #[.int .i64 x, .int .i64 y] := by kernel_rfl
set_option maxHeartbeats 1000000 in
theorem script_calls (w0 : World) (va vb : Value) (a b : List ByteArray) (ha : SlS w0 va a) (hb : SlS w0 vb b) :
  Calls Try.prog 20 #[va, vb] w0 (Ret fun r w' => Below w0.heap.size w0 w' ∧ ((400 < a.length ∨ 400 < b.length) ∧ r = .tuple #[.slice none 0 0, .int .i64 4] ∨
   a.length ≤ 400 ∧ b.length ≤ 400 ∧ ∃ v, r = .tuple #[v, .int .i64 0] ∧ EditsAt w' w0.heap.size v (script a b))) := by
 refine calls_W (args := [_, _]) Try.func20 rfl Try.ntmps20 Try.results20 (by simp) ?_
 have ha0 := ha
 have hb0 := hb
 obtain ⟨aa, ca, rfl, ha1, ha2, ha3⟩ := ha
 obtain ⟨ab, cb, rfl, hb1, hb2, hb3⟩ := hb
 generalize hla' : a.length = la at *
 generalize hlb' : b.length = lb at *
 (repeat first | refine W_seq ?_ | refine qV ?_ | refine W_skip ?_ | refine qY ?_); refine W_reg (fun K hK => ?_); simp only [push_cast, Nat.reduceBEq, Nat.reduceAdd, Nat.reduceLT, Nat.reduceEqDiff, reduceIte, reduceCtorEq, Nat.reduceLeDiff, Nat.reduceSub]; refine hK _ _ ?_; clear hK K
 cases hA : decide ((400 : Int) < (la : Int))
 rotate_left
 ·(repeat first | refine W_seq ?_ | refine qV ?_ | refine W_skip ?_ | refine qY ?_); refine W_reg (fun K hK => ?_); simp only [push_cast, Nat.reduceBEq, Nat.reduceAdd, Nat.reduceLT, Nat.reduceEqDiff, reduceIte, reduceCtorEq, Nat.reduceLeDiff, Nat.reduceSub, us22, hA]; refine hK _ _ ?_; clear hK K
  (repeat first | refine W_seq ?_ | refine qV ?_ | refine W_skip ?_ | refine qY ?_)
  refine W_true rfl ?_
  (repeat first | refine W_seq ?_ | refine qV ?_ | refine W_skip ?_ | refine qY ?_); refine W_reg (fun K hK => ?_); simp only [push_cast, Nat.reduceBEq, Nat.reduceAdd, Nat.reduceLT, Nat.reduceEqDiff, reduceIte, reduceCtorEq, Nat.reduceLeDiff, Nat.reduceSub]; refine hK _ _ ?_; clear hK K
  (repeat first | refine seqQ_ret ?_ | refine seqQ_exit ?_ | refine blkQ_exit ?_ | refine blkQ_other rfl ?_ | refine blkQ_ret ?_ | refine qY ?_ | refine W_seq ?_ | refine qV ?_ | refine W_skip ?_ | refine W_exit ?_ | refine W_ret ?_)
  simp only [funQ, resE, tup, lk, Nat.reduceEqDiff, reduceIte, reduceCtorEq]
  exact ⟨Below.refl _ _, .inl ⟨.inl (by have := of_decide_eq_true hA; omega), trivial⟩⟩
 have hA' := of_decide_eq_false hA
 cases hB : decide ((400 : Int) < (lb : Int))
 rotate_left
 ·(repeat first | refine W_seq ?_ | refine qV ?_ | refine W_skip ?_ | refine qY ?_); refine W_reg (fun K hK => ?_); simp only [push_cast, Nat.reduceBEq, Nat.reduceAdd, Nat.reduceLT, Nat.reduceEqDiff, reduceIte, reduceCtorEq, Nat.reduceLeDiff, Nat.reduceSub, us22, hA, hB]; refine hK _ _ ?_; clear hK K
  (repeat first | refine W_seq ?_ | refine qV ?_ | refine W_skip ?_ | refine qY ?_)
  refine W_true rfl ?_
  (repeat first | refine W_seq ?_ | refine qV ?_ | refine W_skip ?_ | refine qY ?_); refine W_reg (fun K hK => ?_); simp only [push_cast, Nat.reduceBEq, Nat.reduceAdd, Nat.reduceLT, Nat.reduceEqDiff, reduceIte, reduceCtorEq, Nat.reduceLeDiff, Nat.reduceSub]; refine hK _ _ ?_; clear hK K
  (repeat first | refine seqQ_ret ?_ | refine seqQ_exit ?_ | refine blkQ_exit ?_ | refine blkQ_other rfl ?_ | refine blkQ_ret ?_ | refine qY ?_ | refine W_seq ?_ | refine qV ?_ | refine W_skip ?_ | refine W_exit ?_ | refine W_ret ?_)
  simp only [funQ, resE, tup, lk, Nat.reduceEqDiff, reduceIte, reduceCtorEq]
  exact ⟨Below.refl _ _, .inl ⟨.inr (by have := of_decide_eq_true hB; omega), trivial⟩⟩
 have hB' := of_decide_eq_false hB
 (repeat first | refine W_seq ?_ | refine qV ?_ | refine W_skip ?_ | refine qY ?_); refine W_reg (fun K hK => ?_); simp only [push_cast, Nat.reduceBEq, Nat.reduceAdd, Nat.reduceLT, Nat.reduceEqDiff, reduceIte, reduceCtorEq, Nat.reduceLeDiff, Nat.reduceSub, us22, hA, hB]; refine hK _ _ ?_; clear hK K
 (repeat first | refine W_seq ?_ | refine qV ?_ | refine W_skip ?_ | refine qY ?_)
 refine W_false rfl ?_
 (repeat first | refine W_seq ?_ | refine qV ?_ | refine W_skip ?_ | refine qY ?_); refine W_reg (fun K hK => ?_); simp only [push_cast, Nat.reduceBEq, Nat.reduceAdd, Nat.reduceLT, Nat.reduceEqDiff, reduceIte, reduceCtorEq, Nat.reduceLeDiff, Nat.reduceSub]
 obtain ⟨w1, hr, ho, hb1, hlt⟩ := own_lit (P := Try.prog) (w := w0) (parts := #[]) (len := 0) #[] se23 (by omega) (by omega) (by kernel_rfl) rfl
 refine ⟨_, w1, hr, ?_⟩
 clear hr
 refine v2s ?_; try simp only [push_cast, Nat.reduceBEq, Nat.reduceAdd, Nat.reduceLT, Nat.reduceEqDiff, reduceIte, reduceCtorEq, Nat.reduceLeDiff, Nat.reduceSub]
 refine hK _ _ ?_; clear hK K
 (repeat first | refine W_seq ?_ | refine qV ?_ | refine W_skip ?_ | refine qY ?_); refine W_reg (fun K hK => ?_); simp only [push_cast, Nat.reduceBEq, Nat.reduceAdd, Nat.reduceLT, Nat.reduceEqDiff, reduceIte, reduceCtorEq, Nat.reduceLeDiff, Nat.reduceSub]
 refine ⟨cl55, Ret.mono (measure_calls w1 _ _ a b (by omega) (by omega) (ha0.up hb1) (hb0.up hb1)) ?_⟩
 rintro _ w2 ⟨g, n, cs, rfl, hn, hRg, hg, hT, hb2⟩
 have ho := ho.up hb2
 have hB := hb1.trans (hb2.mono hb1.size)
 refine v2s ?_; try simp only [push_cast, Nat.reduceBEq, Nat.reduceAdd, Nat.reduceLT, Nat.reduceEqDiff, reduceIte, reduceCtorEq, Nat.reduceLeDiff, Nat.reduceSub, zt87]
 have hs0 := Blk.new w2 #[.int .i64 0, .slice none 0 0] 87
 have hgs := hg.lt
 have hb3 := (Below.refl w2.heap.size w2).alloc (Nat.le_refl _) (.cells #[.int .i64 0, .slice none 0 0] 87)
 have hg := hg.up hb3
 have ho := ho.up hb3
 have hB := hB.trans (hb3.mono hB.size)
 generalize hw3 : w2.alloc (.cells #[.int .i64 0, .slice none 0 0] 87) = w3 at *
 generalize hS : w2.heap.size = s at *
 obtain ⟨w4, hr, hs, ho4⟩ := storeAll (P := Try.prog) (ty := 87) (vs := #[.int .i64 (b.length + 1 : Nat), .slice (some ⟨g, 0, none⟩) n n]) hs0 kt87 (by simp [Value.oneCell']) rfl
 refine ⟨w4, hr, ?_⟩
 have hg := hg.only ho4 (by omega)
 refine v2s ?_; try simp only [push_cast, Nat.reduceBEq, Nat.reduceAdd, Nat.reduceLT, Nat.reduceEqDiff, reduceIte, reduceCtorEq, Nat.reduceLeDiff, Nat.reduceSub]
 refine hK _ _ ?_; clear hK K
 clear hr
 have ho := ho.only ho4 (by simp only [Value.ownBlock]; intro e; injection e with e; omega)
 have hB := ho4.below hB (by have := hB.size; omega)
 have ha4 := ha0.up hB
 have hb4 := hb0.up hB
 generalize hR : w0.heap.size = R at *
 generalize hv0 : Value.slice (some ⟨R, 0, none⟩) 0 0 = v0 at *
 obtain ⟨wd, hwd⟩ : ∃ wd, wd = b.length + 1 := ⟨_, rfl⟩
 rw [← hwd] at hs hT hn
 have hwl : wd = lb + 1 := by rw [hwd, hlb']
 have hn1 : n = (la + 1) * wd := by rw [hn, hla']
 have hn2 : n ≤ 401 * 401 := by rw [hn1]; exact Nat.mul_le_mul (by omega) (by omega)
 have hm : maxLen ≥ 1000000 := by decide
 (repeat first | refine W_seq ?_ | refine qV ?_ | refine W_skip ?_ | refine qY ?_); refine W_reg (fun K hK => ?_); simp only [push_cast, Nat.reduceBEq, Nat.reduceAdd, Nat.reduceLT, Nat.reduceEqDiff, reduceIte, reduceCtorEq, Nat.reduceLeDiff, Nat.reduceSub]; refine hK _ _ ?_; clear hK K
 (repeat first | refine W_seq ?_ | refine qV ?_ | refine W_skip ?_ | refine qY ?_)
 refine W_block ?_
 refine W_loop (fun x : Nat × Nat × List (Nat × Nat) × Value => [(0, .slice aa la ca), (1, .slice ab lb cb), (6, x.2.2.2), (7, .pointer (some ⟨s, 0, none⟩)), (8, .int .i64 x.1), (9, .int .i64 x.2.1)])
  (fun x w => x.1 ≤ la ∧ x.2.1 ≤ lb ∧ x.2.2.1.length ≤ x.1 + x.2.1 ∧ (∀ r ∈ x.2.2.1, r.2 ≤ x.1 + x.2.1) ∧ (steps (a.drop x.1) (b.drop x.2.1)).foldl addStep x.2.2.1 = script a b ∧ EditsAt w R x.2.2.2 x.2.2.1 ∧
   Blk w g cs 89 ∧ Blk w s #[.int .i64 wd, .slice (some ⟨g, 0, none⟩) n n] 87 ∧ Below R w0 w) (fun x => (la - x.1) + (lb - x.2.1)) [0, 1, 6, 7, 8, 9] (0, 0, [], v0) rfl
  ⟨Nat.zero_le _, Nat.zero_le _, Nat.le_refl _, by simp, rfl, ho, hg, hs, hB⟩ ?_
 clear ho hg hs hB hb3 hs0 ho4 hw3 hlt hb1 hb2 ha4 hb4
 rintro ⟨i, j, acc, v⟩ w ⟨hi, hj, hal, hac, hf, ho, hg, hs, hB⟩
 simp only at hi hj hal hac hf ho
 have endI : decide ((i : Int) < la) = false → decide ((j : Int) < lb) = false → steps (a.drop i) (b.drop j) = [] := fun h1 h2 => by
  have h1 := of_decide_eq_false h1
  have h2 := of_decide_eq_false h2
  exact steps_end a b i j (by omega) (by omega)
 have g0 := hs.cell 0
 have g1 := hs.cell 1
 simp only [List.getElem?_toArray, List.getElem?_cons_zero, List.getElem?_cons_succ] at g0 g1
 have cellA : i < la → ∃ ba oa, aa = some ⟨ba, oa, none⟩ ∧ w.cell? ⟨ba, oa + i, none⟩ = some (.string (a.getD i ByteArray.empty)) := fun h => by
  obtain ⟨ba, oa, h1, h2⟩ := ha3 (by omega)
  exact ⟨ba, oa, h1, below_cell (by rw [hR]; exact hB) (h2 i (by omega))⟩
 have cellB : j < lb → ∃ ba oa, ab = some ⟨ba, oa, none⟩ ∧ w.cell? ⟨ba, oa + j, none⟩ = some (.string (b.getD j ByteArray.empty)) := fun h => by
  obtain ⟨ba, oa, h1, h2⟩ := hb3 (by omega)
  exact ⟨ba, oa, h1, below_cell (by rw [hR]; exact hB) (h2 j (by omega))⟩
 refine W_cut (ι := Unit) (fun _ => [(0, .slice aa la ca), (1, .slice ab lb cb), (6, v), (7, .pointer (some ⟨s, 0, none⟩)), (8, .int .i64 i), (9, .int .i64 j)]) (fun _ w' => w = w' ∧ (i < la ∨ j < lb)) [0, 1, 6, 7, 8, 9] ?_ ?_
 ·cases hIA : decide ((i : Int) < (la : Int))
  ·(repeat first | refine W_seq ?_ | refine qV ?_ | refine W_skip ?_ | refine qY ?_); refine W_reg (fun K hK => ?_); simp only [push_cast, Nat.reduceBEq, Nat.reduceAdd, Nat.reduceLT, Nat.reduceEqDiff, reduceIte, reduceCtorEq, Nat.reduceLeDiff, Nat.reduceSub, us22, hIA]; refine hK _ _ ?_; clear hK K
   (repeat first | refine W_seq ?_ | refine qV ?_ | refine W_skip ?_ | refine qY ?_)
   refine W_cond rfl (fun hJB => ?_) (fun hJB => ?_)
   ·(repeat first | refine W_seq ?_ | refine qV ?_ | refine W_skip ?_ | refine qY ?_)
    exact ⟨(), rfl, rfl, .inr (by have := of_decide_eq_true hJB; omega)⟩
   ·(repeat first | refine seqQ_ret ?_ | refine seqQ_exit ?_ | refine blkQ_exit ?_ | refine blkQ_other rfl ?_ | refine blkQ_ret ?_ | refine qY ?_ | refine W_seq ?_ | refine qV ?_ | refine W_skip ?_ | refine W_exit ?_ | refine W_ret ?_)
    (repeat first | refine W_seq ?_ | refine qV ?_ | refine W_skip ?_ | refine qY ?_); refine W_reg (fun K hK => ?_); simp only [push_cast, Nat.reduceBEq, Nat.reduceAdd, Nat.reduceLT, Nat.reduceEqDiff, reduceIte, reduceCtorEq, Nat.reduceLeDiff, Nat.reduceSub]; refine hK _ _ ?_; clear hK K
    (repeat first | refine seqQ_ret ?_ | refine seqQ_exit ?_ | refine blkQ_exit ?_ | refine blkQ_other rfl ?_ | refine blkQ_ret ?_ | refine qY ?_ | refine W_seq ?_ | refine qV ?_ | refine W_skip ?_ | refine W_exit ?_ | refine W_ret ?_)
    simp only [funQ, resE, tup, lk, Nat.reduceEqDiff, reduceIte, reduceCtorEq]
    refine ⟨hB, .inr ⟨by omega, by omega, v, rfl, ?_⟩⟩
    rw [endI hIA hJB] at hf
    rw [← hf]; exact ho
  ·(repeat first | refine W_seq ?_ | refine qV ?_ | refine W_skip ?_ | refine qY ?_); refine W_reg (fun K hK => ?_); simp only [push_cast, Nat.reduceBEq, Nat.reduceAdd, Nat.reduceLT, Nat.reduceEqDiff, reduceIte, reduceCtorEq, Nat.reduceLeDiff, Nat.reduceSub, us22, hIA]; refine hK _ _ ?_; clear hK K
   (repeat first | refine W_seq ?_ | refine qV ?_ | refine W_skip ?_ | refine qY ?_)
   refine W_true rfl ?_
   (repeat first | refine W_seq ?_ | refine qV ?_ | refine W_skip ?_ | refine qY ?_)
   exact ⟨(), rfl, rfl, .inl (by have := of_decide_eq_true hIA; omega)⟩
 rintro - w' ⟨rfl, hany⟩
 refine W_block ?_
 (repeat first | refine W_seq ?_ | refine qV ?_ | refine W_skip ?_ | refine qY ?_); refine W_reg (fun K hK => ?_); simp only [push_cast, Nat.reduceBEq, Nat.reduceAdd, Nat.reduceLT, Nat.reduceEqDiff, reduceIte, reduceCtorEq, Nat.reduceLeDiff, Nat.reduceSub]; refine hK _ _ ?_; clear hK K
 refine qV ?_
 refine W_cut (ι := Nat) (fun op => [(0, .slice aa la ca), (1, .slice ab lb cb), (6, v), (7, .pointer (some ⟨s, 0, none⟩)), (8, .int .i64 i), (9, .int .i64 j), (10, .int .i64 op)])
  (fun op w' => Below w.heap.size w w' ∧ op ≤ 2 ∧ (op ≠ 2 → i < la) ∧ (op ≠ 1 → j < lb) ∧ steps (a.drop i) (b.drop j) = op :: steps (a.drop (if op = 2 then i else i + 1)) (b.drop (if op = 1 then j else j + 1))) [0, 1, 6, 7, 8, 9, 10] ?_ ?_
 ·(repeat first | refine W_seq ?_ | refine qV ?_ | refine W_skip ?_ | refine qY ?_)
  refine W_block ?_
  cases hIA : decide ((i : Int) < (la : Int))
  ·have hil := of_decide_eq_false hIA
   have hjl : j < lb := by omega
   have hJE : decide ((j : Int) = (lb : Int)) = false := by simp; omega
   (repeat first | refine W_seq ?_ | refine qV ?_ | refine W_skip ?_ | refine qY ?_); refine W_drw [10, 0, 1, 6, 7, 8, 9] 22 mixed rfl (by kernel_rfl) (fun K hK => ?_); simp only [push_cast, Nat.reduceBEq, Nat.reduceAdd, Nat.reduceLT, Nat.reduceEqDiff, reduceIte, reduceCtorEq, Nat.reduceLeDiff, Nat.reduceSub, us22, kt9, hIA]
   intro w5 hw5
   refine v2s ?_; try simp only [push_cast, Nat.reduceBEq, Nat.reduceAdd, Nat.reduceLT, Nat.reduceEqDiff, reduceIte, reduceCtorEq, Nat.reduceLeDiff, Nat.reduceSub]
   refine hK _ _ ?_; clear hK K
   refine qV ?_
   refine W_false rfl ?_
   refine W_kept (l' := _) [10, 0, 1, 6, 7, 8, 9] (by simp only [keep, lk, Nat.reduceEqDiff, reduceIte]; exact rfl) ?_
   (repeat first | refine W_seq ?_ | refine qV ?_ | refine W_skip ?_ | refine qY ?_); refine W_drw [10, 0, 1, 6, 7, 8, 9] 24 mixed rfl (by kernel_rfl) (fun K hK => ?_); simp only [push_cast, Nat.reduceBEq, Nat.reduceAdd, Nat.reduceLT, Nat.reduceEqDiff, reduceIte, reduceCtorEq, Nat.reduceLeDiff, Nat.reduceSub, us22, kt9, hIA, hJE]
   intro w6 hw6
   refine v2s ?_; try simp only [push_cast, Nat.reduceBEq, Nat.reduceAdd, Nat.reduceLT, Nat.reduceEqDiff, reduceIte, reduceCtorEq, Nat.reduceLeDiff, Nat.reduceSub]
   refine hK _ _ ?_; clear hK K
   refine qV ?_
   refine W_false rfl ?_
   (repeat first | refine seqQ_ret ?_ | refine seqQ_exit ?_ | refine blkQ_exit ?_ | refine blkQ_other rfl ?_ | refine blkQ_ret ?_ | refine qY ?_ | refine W_seq ?_ | refine qV ?_ | refine W_skip ?_ | refine W_exit ?_ | refine W_ret ?_)
   refine ⟨2, rfl, hw5.trans (hw6.mono hw5.size), by omega, by omega, fun _ => hjl, ?_⟩
   rw [if_pos rfl, if_neg (by decide)]
   exact steps_add a b i j (by omega) (.inl (by omega))
  ·have hil : i < la := by have := of_decide_eq_true hIA; omega
   obtain ⟨ba, oa, rfl, cA⟩ := cellA hil
   cases hJB : decide ((j : Int) < (lb : Int))
   ·have hJE : decide ((j : Int) = (lb : Int)) = true := by have := of_decide_eq_false hJB; simp; omega
    (repeat first | refine W_seq ?_ | refine qV ?_ | refine W_skip ?_ | refine qY ?_); refine W_drw [10, 0, 1, 6, 7, 8, 9] 22 mixed rfl (by kernel_rfl) (fun K hK => ?_); simp only [push_cast, Nat.reduceBEq, Nat.reduceAdd, Nat.reduceLT, Nat.reduceEqDiff, reduceIte, reduceCtorEq, Nat.reduceLeDiff, Nat.reduceSub, us22, kt9, hIA, hJB]
    intro w5 hw5
    refine v2s ?_; try simp only [push_cast, Nat.reduceBEq, Nat.reduceAdd, Nat.reduceLT, Nat.reduceEqDiff, reduceIte, reduceCtorEq, Nat.reduceLeDiff, Nat.reduceSub]
    refine hK _ _ ?_; clear hK K
    refine qV ?_
    refine W_false rfl ?_
    refine W_kept (l' := _) [10, 0, 1, 6, 7, 8, 9] (by simp only [keep, lk, Nat.reduceEqDiff, reduceIte]; exact rfl) ?_
    (repeat first | refine W_seq ?_ | refine qV ?_ | refine W_skip ?_ | refine qY ?_); refine W_drw [10, 0, 1, 6, 7, 8, 9] 24 mixed rfl (by kernel_rfl) (fun K hK => ?_); simp only [push_cast, Nat.reduceBEq, Nat.reduceAdd, Nat.reduceLT, Nat.reduceEqDiff, reduceIte, reduceCtorEq, Nat.reduceLeDiff, Nat.reduceSub, us22, kt9, hIA, hJE]
    intro w6 hw6
    refine v2s ?_; try simp only [push_cast, Nat.reduceBEq, Nat.reduceAdd, Nat.reduceLT, Nat.reduceEqDiff, reduceIte, reduceCtorEq, Nat.reduceLeDiff, Nat.reduceSub]
    refine hK _ _ ?_; clear hK K
    refine qV ?_
    refine W_true rfl ?_
    (repeat first | refine W_seq ?_ | refine qV ?_ | refine W_skip ?_ | refine qY ?_); refine W_reg (fun K hK => ?_); simp only [push_cast, Nat.reduceBEq, Nat.reduceAdd, Nat.reduceLT, Nat.reduceEqDiff, reduceIte, reduceCtorEq, Nat.reduceLeDiff, Nat.reduceSub]; refine hK _ _ ?_; clear hK K
    (repeat first | refine seqQ_ret ?_ | refine seqQ_exit ?_ | refine blkQ_exit ?_ | refine blkQ_other rfl ?_ | refine blkQ_ret ?_ | refine qY ?_ | refine W_seq ?_ | refine qV ?_ | refine W_skip ?_ | refine W_exit ?_ | refine W_ret ?_)
    refine ⟨1, rfl, hw5.trans (hw6.mono hw5.size), by omega, fun _ => hil, by omega, ?_⟩
    rw [if_pos rfl, if_neg (by decide)]
    exact steps_drop a b i j (by omega) (.inl (by have := of_decide_eq_false hJB; omega))
   ·have hjl : j < lb := by have := of_decide_eq_true hJB; omega
    have hJE : decide ((j : Int) = (lb : Int)) = false := by simp; omega
    obtain ⟨bb, ob, rfl, cB⟩ := cellB hjl
    have bA : (0 : Int) ≤ i ∧ (i : Int) < la := by omega
    have bB : (0 : Int) ≤ j ∧ (j : Int) < lb := by omega
    have ga : a.getD i ByteArray.empty = a[i]'(by omega) := by simp [List.getD_eq_getElem?_getD, List.getElem?_eq_getElem (show i < a.length by omega)]
    have gb : b.getD j ByteArray.empty = b[j]'(by omega) := by simp [List.getD_eq_getElem?_getD, List.getElem?_eq_getElem (show j < b.length by omega)]
    (repeat first | refine W_seq ?_ | refine qV ?_ | refine W_skip ?_ | refine qY ?_); refine W_drw [10, 0, 1, 6, 7, 8, 9] 22 mixed rfl (by kernel_rfl) (fun K hK => ?_); simp only [push_cast, Nat.reduceBEq, Nat.reduceAdd, Nat.reduceLT, Nat.reduceEqDiff, reduceIte, reduceCtorEq, Nat.reduceLeDiff, Nat.reduceSub, us22, kt9, hIA, hJB, cA, cB, bA, bB]
    intro w5 hw5
    refine v2s ?_; try simp only [push_cast, Nat.reduceBEq, Nat.reduceAdd, Nat.reduceLT, Nat.reduceEqDiff, reduceIte, reduceCtorEq, Nat.reduceLeDiff, Nat.reduceSub]
    refine hK _ _ ?_; clear hK K
    refine qV ?_
    refine W_cond rfl (fun he => ?_) (fun he => ?_)
    ·have he : a.getD i ByteArray.empty = b.getD j ByteArray.empty := of_decide_eq_true he
     (repeat first | refine W_seq ?_ | refine qV ?_ | refine W_skip ?_ | refine qY ?_); refine W_reg (fun K hK => ?_); simp only [push_cast, Nat.reduceBEq, Nat.reduceAdd, Nat.reduceLT, Nat.reduceEqDiff, reduceIte, reduceCtorEq, Nat.reduceLeDiff, Nat.reduceSub]; refine hK _ _ ?_; clear hK K
     (repeat first | refine seqQ_ret ?_ | refine seqQ_exit ?_ | refine blkQ_exit ?_ | refine blkQ_other rfl ?_ | refine blkQ_ret ?_ | refine qY ?_ | refine W_seq ?_ | refine qV ?_ | refine W_skip ?_ | refine W_exit ?_ | refine W_ret ?_)
     refine ⟨0, rfl, hw5, by omega, fun _ => hil, fun _ => hjl, ?_⟩
     rw [if_neg (by decide), if_neg (by decide)]
     exact steps_keep a b i j (by omega) (by omega) (by rw [← ga, ← gb]; exact he)
    ·have he : ¬ a.getD i ByteArray.empty = b.getD j ByteArray.empty := of_decide_eq_false he
     rw [ga, gb] at he
     refine W_kept (l' := _) [10, 0, 1, 6, 7, 8, 9] (by simp only [keep, lk, Nat.reduceEqDiff, reduceIte]; exact rfl) ?_
     have hg := hg.up hw5
     have hs := hs.up hw5
     obtain ⟨i1, hi1⟩ : ∃ i1, i1 = i + 1 := ⟨_, rfl⟩
     obtain ⟨j1, hj1⟩ : ∃ j1, j1 = j + 1 := ⟨_, rfl⟩
     have f3 : IntKind.i64.wrap ((i : Int) + 1) = (i1 : Int) := by rw [wrap63 (by omega) (by omega)]; omega
     have f4 : IntKind.i64.wrap ((j : Int) + 1) = (j1 : Int) := by rw [wrap63 (by omega) (by omega)]; omega
     have near : ∀ x y, x ≤ la → y < wd → w5.cell? ⟨g, x * wd + y, none⟩ = some (.int .i16 (at2 a b x y)) := fun x y hx hy => by
      rw [hg.cell]
      exact hT.2 x y (by omega) hy (by omega)
     have bound : ∀ x y, x ≤ la → y < wd → x * wd + y < n := fun x y hx hy => by rw [hn1]; exact idx_lt hy (by omega)
     (repeat first | refine W_seq ?_ | refine qV ?_ | refine W_skip ?_ | refine qY ?_); refine W_drw [10, 0, 1, 6, 7, 8, 9] 24 mixed rfl (by kernel_rfl) (fun K hK => ?_); simp only [push_cast, Nat.reduceBEq, Nat.reduceAdd, Nat.reduceLT, Nat.reduceEqDiff, reduceIte, reduceCtorEq, Nat.reduceLeDiff, Nat.reduceSub, us22, kt9, kt87, hIA, hJE, f3, f4]
     refine ⟨_, hs.cells rfl, ?_⟩
     refine vqs ?_; try simp only [push_cast, Nat.reduceBEq, Nat.reduceAdd, Nat.reduceLT, Nat.reduceEqDiff, reduceIte, reduceCtorEq, Nat.reduceLeDiff, Nat.reduceSub, f3, f4]
     refine ⟨cl56, _, drawn_calls (fun w' hw' => at_calls w' g n wd i1 j _ (by omega) (by omega) (by omega) (by omega) (bound i1 j (by omega) (by omega)) (below_cell hw' (near i1 j (by omega) (by omega)))), ?_⟩
     refine vqs ?_; try simp only [push_cast, Nat.reduceBEq, Nat.reduceAdd, Nat.reduceLT, Nat.reduceEqDiff, reduceIte, reduceCtorEq, Nat.reduceLeDiff, Nat.reduceSub, kt87]
     refine ⟨_, hs.cells rfl, ?_⟩
     refine vqs ?_; try simp only [push_cast, Nat.reduceBEq, Nat.reduceAdd, Nat.reduceLT, Nat.reduceEqDiff, reduceIte, reduceCtorEq, Nat.reduceLeDiff, Nat.reduceSub, f3, f4]
     refine ⟨cl56, _, drawn_calls (fun w' hw' => at_calls w' g n wd i j1 _ (by omega) (by omega) (by omega) (by omega) (bound i j1 (by omega) (by omega)) (below_cell hw' (near i j1 (by omega) (by omega)))), ?_⟩
     refine vqs ?_; try simp only [push_cast, Nat.reduceBEq, Nat.reduceAdd, Nat.reduceLT, Nat.reduceEqDiff, reduceIte, reduceCtorEq, Nat.reduceLeDiff, Nat.reduceSub]
     intro w6 hw6
     refine v2s ?_; try simp only [push_cast, Nat.reduceBEq, Nat.reduceAdd, Nat.reduceLT, Nat.reduceEqDiff, reduceIte, reduceCtorEq, Nat.reduceLeDiff, Nat.reduceSub]
     refine hK _ _ ?_; clear hK K
     refine qV ?_
     refine W_cond rfl (fun hc => ?_) (fun hc => ?_)
     ·have hc := of_decide_eq_true hc
      (repeat first | refine W_seq ?_ | refine qV ?_ | refine W_skip ?_ | refine qY ?_); refine W_reg (fun K hK => ?_); simp only [push_cast, Nat.reduceBEq, Nat.reduceAdd, Nat.reduceLT, Nat.reduceEqDiff, reduceIte, reduceCtorEq, Nat.reduceLeDiff, Nat.reduceSub]; refine hK _ _ ?_; clear hK K
      (repeat first | refine seqQ_ret ?_ | refine seqQ_exit ?_ | refine blkQ_exit ?_ | refine blkQ_other rfl ?_ | refine blkQ_ret ?_ | refine qY ?_ | refine W_seq ?_ | refine qV ?_ | refine W_skip ?_ | refine W_exit ?_ | refine W_ret ?_)
      refine ⟨1, rfl, hw5.trans (hw6.mono hw5.size), by omega, fun _ => hil, fun _ => hjl, ?_⟩
      rw [if_pos rfl, if_neg (by decide)]
      exact steps_drop a b i j (by omega) (.inr ⟨by omega, he, by subst hi1; subst hj1; omega⟩)
     ·have hc := of_decide_eq_false hc
      (repeat first | refine seqQ_ret ?_ | refine seqQ_exit ?_ | refine blkQ_exit ?_ | refine blkQ_other rfl ?_ | refine blkQ_ret ?_ | refine qY ?_ | refine W_seq ?_ | refine qV ?_ | refine W_skip ?_ | refine W_exit ?_ | refine W_ret ?_)
      refine ⟨2, rfl, hw5.trans (hw6.mono hw5.size), by omega, by omega, fun _ => hjl, ?_⟩
      rw [if_pos rfl, if_neg (by decide)]
      exact steps_add a b i j (by omega) (.inr ⟨by omega, he, by subst hi1; subst hj1; omega⟩)
 rintro op wA ⟨hbA, hop, hoi, hoj, hst⟩
 have ho := ho.up hbA
 have hg := hg.up hbA
 have hs := hs.up hbA
 have hB := hB.trans (hbA.mono (by rw [← hR]; exact hB.size))
 clear hbA g0 g1 cellA cellB
 obtain ⟨ni, hni⟩ : ∃ ni, ni = if op = 2 then i else i + 1 := ⟨_, rfl⟩
 obtain ⟨nj, hnj⟩ : ∃ nj, nj = if op = 1 then j else j + 1 := ⟨_, rfl⟩
 rw [← hni, ← hnj] at hst
 rw [hst, List.foldl_cons] at hf
 have bi : ni ≤ la ∧ i ≤ ni ∧ ni ≤ i + 1 := by split at hni <;> omega
 have bj : nj ≤ lb ∧ j ≤ nj ∧ nj ≤ j + 1 := by split at hnj <;> omega
 have bij : i + j + 1 ≤ ni + nj := by split at hni <;> split at hnj <;> omega
 have f3 : IntKind.i64.wrap ((i : Int) + 1) = (i : Int) + 1 := by rw [wrap63 (by omega) (by omega)]
 have f4 : IntKind.i64.wrap ((j : Int) + 1) = (j : Int) + 1 := by rw [wrap63 (by omega) (by omega)]
 refine W_cut (ι := Unit) (fun _ => [(0, .slice aa la ca), (1, .slice ab lb cb), (6, v), (7, .pointer (some ⟨s, 0, none⟩)), (8, .int .i64 ni), (9, .int .i64 j), (10, .int .i64 op)]) (fun _ w' => wA = w') [0, 1, 6, 7, 8, 9, 10] ?_ ?_
 ·(repeat first | refine W_seq ?_ | refine qV ?_ | refine W_skip ?_ | refine qY ?_); refine W_reg (fun K hK => ?_); simp only [push_cast, Nat.reduceBEq, Nat.reduceAdd, Nat.reduceLT, Nat.reduceEqDiff, reduceIte, reduceCtorEq, Nat.reduceLeDiff, Nat.reduceSub]; refine hK _ _ ?_; clear hK K
  (repeat first | refine W_seq ?_ | refine qV ?_ | refine W_skip ?_ | refine qY ?_)
  refine W_cond rfl (fun h => ?_) (fun h => ?_)
  ·have e : (ni : Int) = (i : Int) + 1 := by
    have h : ¬ op = 2 := by simp at h; omega
    rw [hni, if_neg h]; simp
   rw [e]
   (repeat first | refine W_seq ?_ | refine qV ?_ | refine W_skip ?_ | refine qY ?_); refine W_reg (fun K hK => ?_); simp only [push_cast, Nat.reduceBEq, Nat.reduceAdd, Nat.reduceLT, Nat.reduceEqDiff, reduceIte, reduceCtorEq, Nat.reduceLeDiff, Nat.reduceSub, f3]; refine hK _ _ ?_; clear hK K
   exact ⟨(), rfl, rfl⟩
  ·have e : ni = i := by
    have h : op = 2 := by simp at h; omega
    rw [hni, if_pos h]
   rw [e]
   (repeat first | refine W_seq ?_ | refine qV ?_ | refine W_skip ?_ | refine qY ?_)
   exact ⟨(), rfl, rfl⟩
 rintro - _ rfl
 refine W_cut (ι := Unit) (fun _ => [(0, .slice aa la ca), (1, .slice ab lb cb), (6, v), (7, .pointer (some ⟨s, 0, none⟩)), (8, .int .i64 ni), (9, .int .i64 nj), (10, .int .i64 op)]) (fun _ w' => wA = w') [0, 1, 6, 7, 8, 9, 10] ?_ ?_
 ·(repeat first | refine W_seq ?_ | refine qV ?_ | refine W_skip ?_ | refine qY ?_); refine W_reg (fun K hK => ?_); simp only [push_cast, Nat.reduceBEq, Nat.reduceAdd, Nat.reduceLT, Nat.reduceEqDiff, reduceIte, reduceCtorEq, Nat.reduceLeDiff, Nat.reduceSub]; refine hK _ _ ?_; clear hK K
  (repeat first | refine W_seq ?_ | refine qV ?_ | refine W_skip ?_ | refine qY ?_)
  refine W_cond rfl (fun h => ?_) (fun h => ?_)
  ·have e : (nj : Int) = (j : Int) + 1 := by
    have h : ¬ op = 1 := by simp at h; omega
    rw [hnj, if_neg h]; simp
   rw [e]
   (repeat first | refine W_seq ?_ | refine qV ?_ | refine W_skip ?_ | refine qY ?_); refine W_reg (fun K hK => ?_); simp only [push_cast, Nat.reduceBEq, Nat.reduceAdd, Nat.reduceLT, Nat.reduceEqDiff, reduceIte, reduceCtorEq, Nat.reduceLeDiff, Nat.reduceSub, f4]; refine hK _ _ ?_; clear hK K
   exact ⟨(), rfl, rfl⟩
  ·have e : nj = j := by
    have h : op = 1 := by simp at h; omega
    rw [hnj, if_pos h]
   rw [e]
   (repeat first | refine W_seq ?_ | refine qV ?_ | refine W_skip ?_ | refine qY ?_)
   exact ⟨(), rfl, rfl⟩
 rintro - _ rfl
 obtain ⟨ad, cap, rfl, hcell⟩ := Own.form ho
 obtain ⟨n0, hn0⟩ : ∃ n0, n0 = acc.length := ⟨_, rfl⟩
 rw [← hn0] at hcell
 rw [← hn0]
 (repeat first | refine W_seq ?_ | refine qV ?_ | refine W_skip ?_ | refine qY ?_); refine W_reg (fun K hK => ?_); simp only [push_cast, Nat.reduceBEq, Nat.reduceAdd, Nat.reduceLT, Nat.reduceEqDiff, reduceIte, reduceCtorEq, Nat.reduceLeDiff, Nat.reduceSub, us23]; refine hK _ _ ?_; clear hK K
 refine W_cut (ι := Bool) (fun z => [(0, .slice aa la ca), (1, .slice ab lb cb), (6, .slice ad n0 cap), (7, .pointer (some ⟨s, 0, none⟩)), (8, .int .i64 ni), (9, .int .i64 nj), (10, .int .i64 op), (11, .int .i64 n0), (101, .bool z)])
  (fun z w' => wA = w' ∧ (z = true → ∃ acc' c, acc = acc' ++ [(op, c)]) ∧ (z = false → addStep acc op = acc ++ [(op, 1)])) [0, 1, 6, 7, 8, 9, 10, 11, 101] ?_ ?_
 ·cases hpos : decide ((0 : Int) < (n0 : Int))
  ·(repeat first | refine W_seq ?_ | refine qV ?_ | refine W_skip ?_ | refine qY ?_); refine W_reg (fun K hK => ?_); simp only [push_cast, Nat.reduceBEq, Nat.reduceAdd, Nat.reduceLT, Nat.reduceEqDiff, reduceIte, reduceCtorEq, Nat.reduceLeDiff, Nat.reduceSub, us23, hpos]; refine hK _ _ ?_; clear hK K
   refine ⟨false, rfl, rfl, by simp, fun _ => ?_⟩
   have h0 : acc.length = 0 := by have := of_decide_eq_false hpos; omega
   rw [List.eq_nil_of_length_eq_zero h0]; rfl
  ·have hp : 0 < n0 := by have := of_decide_eq_true hpos; omega
   obtain ⟨gg, rfl, hgg1, hgg2, hcell⟩ := hcell hp
   rcases List.eq_nil_or_concat acc with rfl | ⟨acc', ⟨o, c⟩, hacc⟩
   ·simp at hn0; omega
   rw [List.concat_eq_append] at hacc
   have hk : n0 = acc'.length + 1 := by rw [hn0, hacc]; simp
   obtain ⟨k, hkk⟩ : ∃ k, k = acc'.length := ⟨_, rfl⟩
   have e7 : IntKind.i64.wrap ((n0 : Int) - 1) = (k : Int) := by rw [wrap63 (by omega) (by omega)]; omega
   have bk : (0 : Int) ≤ k ∧ (k : Int) < n0 := by omega
   have hc0 := hcell (k * 2) (.int .i64 o) (by
    have := (eCells_one acc k (by omega)).1
    rw [this]; simp [hacc, hkk])
   (repeat first | refine W_seq ?_ | refine qV ?_ | refine W_skip ?_ | refine qY ?_); refine W_reg (fun K hK => ?_); simp only [push_cast, Nat.reduceBEq, Nat.reduceAdd, Nat.reduceLT, Nat.reduceEqDiff, reduceIte, reduceCtorEq, Nat.reduceLeDiff, Nat.reduceSub, us23, hpos, e7, bk, fo290, kt3, hc0]
   refine hK _ _ ?_; clear hK K
   refine ⟨_, rfl, rfl, fun hz => ?_, fun hz => ?_⟩
   ·have hz := of_decide_eq_true hz
    exact ⟨acc', c, by rw [hacc]; congr 3; omega⟩
   ·have hz := of_decide_eq_false hz
    rw [hacc, addStep_snoc, if_neg (by omega)]; simp
 rintro z _ ⟨rfl, hzt, hzf⟩
 refine W_cond rfl (fun hz => ?_) (fun hz => ?_)
 ·obtain ⟨acc', c, rfl⟩ := hzt hz
  obtain ⟨k, hkk⟩ : ∃ k, k = acc'.length := ⟨_, rfl⟩
  have hk : n0 = k + 1 := by rw [hn0, hkk]; simp
  obtain ⟨gg, rfl, hgg1, hgg2, hcell⟩ := hcell (by omega)
  have e7 : IntKind.i64.wrap ((n0 : Int) - 1) = (k : Int) := by rw [wrap63 (by omega) (by omega)]; omega
  have bk : (0 : Int) ≤ k ∧ (k : Int) < n0 := by omega
  have hcb := hac (op, c) (by simp)
  simp only at hcb
  have e8 : IntKind.i64.wrap ((c : Int) + 1) = (c : Int) + 1 := wrap63 (by omega) (by omega)
  have hc1 := hcell (k * 2 + 1) (.int .i64 c) (by
   have := (eCells_one (acc' ++ [(op, c)]) k (by rw [← hn0]; omega)).2
   rw [this]; simp [hkk])
  rw [← hn0] at ho
  obtain ⟨wB, hr, ho', hon⟩ := own_store (P := Try.prog) (ty := 3) (i := k * 2 + 1) (u := .int .i64 ((c : Int) + 1)) ho kt3 rfl (by omega)
  have hng := Own.ne_blk ho hg (by decide)
  have hns := Own.ne_blk ho hs (by decide)
  simp only [Value.ownBlock] at hng hns
  (repeat first | refine W_seq ?_ | refine qV ?_ | refine W_skip ?_ | refine qY ?_); refine W_reg (fun K hK => ?_); simp only [push_cast, Nat.reduceBEq, Nat.reduceAdd, Nat.reduceLT, Nat.reduceEqDiff, reduceIte, reduceCtorEq, Nat.reduceLeDiff, Nat.reduceSub, us23, e7, bk, fo291, kt3, hc1, e8]
  refine ⟨wB, hr, ?_⟩
  refine v2s ?_; try simp only [push_cast, Nat.reduceBEq, Nat.reduceAdd, Nat.reduceLT, Nat.reduceEqDiff, reduceIte, reduceCtorEq, Nat.reduceLeDiff, Nat.reduceSub]
  refine hK _ _ ?_; clear hK K
  clear hr
  (repeat first | refine seqQ_ret ?_ | refine seqQ_exit ?_ | refine blkQ_exit ?_ | refine blkQ_other rfl ?_ | refine blkQ_ret ?_ | refine qY ?_ | refine W_seq ?_ | refine qV ?_ | refine W_skip ?_ | refine W_exit ?_ | refine W_ret ?_)
  have hl : (acc' ++ [(op, c + 1)]).length = n0 := by rw [hn0]; simp
  refine ⟨(ni, nj, acc' ++ [(op, c + 1)], .slice (some ⟨gg, 0, none⟩) n0 cap), rfl, ⟨bi.1, bj.1, ?_, ?_, ?_, ?_, hg.only hon (fun e => hng (by rw [e])), hs.only hon (fun e => hns (by rw [e])), hon.below hB hgg1⟩, ?_⟩
  ·show (acc' ++ [(op, c + 1)]).length ≤ ni + nj
   rw [hl, hn0]; omega
  ·intro r hr
   show r.2 ≤ ni + nj
   rcases List.mem_append.1 hr with h | h
   ·have := hac r (List.mem_append.2 (.inl h)); omega
   ·have := List.mem_singleton.1 h
    subst this; show c + 1 ≤ _; omega
  ·show List.foldl addStep (acc' ++ [(op, c + 1)]) _ = _
   rw [addStep_snoc, if_pos rfl] at hf
   exact hf
  ·show Own wB R 29 2 _ (acc' ++ [(op, c + 1)]).length (eCells (acc' ++ [(op, c + 1)]))
   rw [hl, ← eCells_bump acc' op c (c + 1), ← hkk]
   exact ho'
  ·show (la - ni) + (lb - nj) < (la - i) + (lb - j)
   omega
 ·replace hzf := hzf hz
  (repeat first | refine W_seq ?_ | refine qV ?_ | refine W_skip ?_ | refine qY ?_); refine W_reg (fun K hK => ?_); simp only [push_cast, Nat.reduceBEq, Nat.reduceAdd, Nat.reduceLT, Nat.reduceEqDiff, reduceIte, reduceCtorEq, Nat.reduceLeDiff, Nat.reduceSub, us23]
  refine ⟨_, build29 _ _, ?_⟩
  refine v2s ?_; try simp only [push_cast, Nat.reduceBEq, Nat.reduceAdd, Nat.reduceLT, Nat.reduceEqDiff, reduceIte, reduceCtorEq, Nat.reduceLeDiff, Nat.reduceSub]
  obtain ⟨wB, hr, hoB, hbB, hltB⟩ := own_lit (P := Try.prog) (w := wA) (len := 1) #[.int .i64 op, .int .i64 1] se23 (by omega) (by omega) (fill1 op 1) rfl
  refine ⟨_, wB, hr, ?_⟩
  clear hr
  refine v2s ?_; try simp only [push_cast, Nat.reduceBEq, Nat.reduceAdd, Nat.reduceLT, Nat.reduceEqDiff, reduceIte, reduceCtorEq, Nat.reduceLeDiff, Nat.reduceSub]
  obtain ⟨ad1, cap1, had1, hcell1⟩ := Own.form hoB
  obtain ⟨gl, rfl, -, -, hcell1⟩ := hcell1 (by omega)
  injection had1 with h1 h2 h3
  injection h1 with h1
  injection h1 with h1
  subst h1
  have hoA := ho.up hbB
  have hgA := hg.up hbB
  have hsA := hs.up hbB
  have hBA := hB.trans (hbB.mono (by rw [← hR]; exact hB.size))

  rw [← hn0] at ho hoA
  have hRs : R ≤ wB.heap.size := by have := hBA.size; omega
  obtain ⟨v', wC, hr, hoC, hgr⟩ := own_append (P := Try.prog) (ty := 23) se23 rfl (by omega) hoA ⟨wA.heap.size, 0, none⟩ 1 1 [.int .i64 op, .int .i64 1] rfl (fun j u hu => by rw [Addr.add_lit, Nat.zero_add]; exact hcell1 j u hu) (by simp [Value.oneCell']) (by omega) (by omega) hRs
  refine ⟨v', wC, hr, ?_⟩
  clear hr
  refine v2s ?_; try simp only [push_cast, Nat.reduceBEq, Nat.reduceAdd, Nat.reduceLT, Nat.reduceEqDiff, reduceIte, reduceCtorEq, Nat.reduceLeDiff, Nat.reduceSub]
  refine hK _ _ ?_; clear hK K
  (repeat first | refine seqQ_ret ?_ | refine seqQ_exit ?_ | refine blkQ_exit ?_ | refine blkQ_other rfl ?_ | refine blkQ_ret ?_ | refine qY ?_ | refine W_seq ?_ | refine qV ?_ | refine W_skip ?_ | refine W_exit ?_ | refine W_ret ?_)
  have hl : (acc ++ [(op, 1)]).length = n0 + 1 := by rw [hn0]; simp
  refine ⟨(ni, nj, acc ++ [(op, 1)], v'), rfl, ⟨bi.1, bj.1, ?_, ?_, ?_, ?_, grown_blk hgA hgr (Own.ne_blk hoA hgA (by decide)), grown_blk hsA hgr (Own.ne_blk hoA hsA (by decide)), grown_below hBA hgr hRs (fun k hk => Own.base_le hoA k hk)⟩, ?_⟩
  ·show (acc ++ [(op, 1)]).length ≤ ni + nj
   rw [hl, hn0]; omega
  ·intro r hr
   show r.2 ≤ ni + nj
   rcases List.mem_append.1 hr with h | h
   ·have := hac r h; omega
   ·have := List.mem_singleton.1 h
    subst this; show 1 ≤ _; omega
  ·show List.foldl addStep (acc ++ [(op, 1)]) _ = _
   rw [hzf] at hf
   exact hf
  ·show Own wC R 29 2 _ (acc ++ [(op, 1)]).length (eCells (acc ++ [(op, 1)]))
   rw [hl, eCells_app]
   exact hoC
  ·show (la - ni) + (lb - nj) < (la - i) + (lb - j)
   omega
end Go.Proofs.Ytlfenddhppoflaa
