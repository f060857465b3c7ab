/-
  Settings: what the program's and the reference's Start and Set make.
-/
import Derived.Test.YtmllbocjcllmpaaHeap
import Derived.Test.YtmllbocjcllmpaaProg
set_option linter.unusedSimpArgs false
set_option linter.unusedVariables false
set_option maxRecDepth 20000
namespace Go.Proofs.Ytmllbocjcllmpaa
open Go Go.Eng Go.RowKit
attribute [local push_cast] lk_nil lk_cons ev_tmp ev_const ev_global ev_func evs_nil evs_cons stp_some stp_none dsts_nil dsts_cons argsE_nil argsE_cons intBin_add intBin_sub intBin_mul intBin_quo intBin_rem intBin_and intBin_or intBin_xor intBin_andNot intBin_eql intBin_neq intBin_lss intBin_leq intBin_gtr intBin_geq intBin_shl intBin_shr strBin_add strBin_eql strBin_neq strBin_lss strBin_leq strBin_gtr strBin_geq pureBin_int pureBin_str pureBin_beq pureBin_bne pureBin_peq pureBin_pne pureBin_seq pureBin_sne pureBin_agg effEq_eql effEq_neq pureUn_not pureUn_neg pureUn_xor pureConv_int pureConv_str pureField_eq pureIndexAddr_s pureIndexAddr_p pureIndex_s oInt_none oInt_some pureSlice_str pureSlice_sl pureB_len pureB_lens pureB_cap pureB_max pureB_min pureB_app pureB_copy po_move po_assign po_pick po_bin po_un po_conv po_field po_extract po_faddr po_iaddr po_index po_slice po_nil po_builtin po_call po_load po_store po_alloc po_box po_build po_buildS po_makeS eo_load eo_store eo_build eo_buildS eo_makeS eo_app eo_call eo_bin eq_load eq_build eq_call eq_bin parts_nil parts_cons outG_none outG_some dstOk_none dstOk_some out_eq outR_eq outOp_eq outQ_eq imm_load immQ_load imm_alloc imm_box imm_store imm_build imm_call imm_bin immQ_build immQ_call immQ_bin imm_buildS imm_makeS v2_nil v2_cons vq_nil vq_cons undef_eq
attribute [local push_cast] List.take_succ_cons List.take_zero List.drop_succ_cons List.drop_zero true_and and_true Option.isSome_some List.getElem?_cons_zero List.getElem?_cons_succ List.length_cons List.length_nil cond_true cond_false Int.toNat_natCast Nat.mul_one Nat.add_zero Nat.zero_add Addr.add_lit bne_self_eq_false beq_self_eq_true Bool.not_true Bool.not_false List.size_toArray Array.getD_eq_getD_getElem? List.getElem?_toArray Option.getD_some decide_true decide_false eq_self Bool.true_beq Bool.false_beq

def vals (c : List Int) : Array Value := (c.map (Value.int .i64)).toArray
def zeros : List Int := List.replicate 17 0
def wQuota : ByteArray := ⟨#[113, 117, 111, 116, 97]⟩
def wAge : ByteArray := ⟨#[97, 103, 101]⟩
def wPeriod : ByteArray := ⟨#[112, 101, 114, 105, 111, 100]⟩
def wRoom : ByteArray := ⟨#[114, 111, 111, 109]⟩
def startM (n : Int) : Option (List Int) := if n < 1 ∨ 6 < n then none else some [n, 100000, 0, 0, 0, 0, 0, 0, 0, 0, 0, 0, 0, 0, 0, 0, 0]
def setM (c : List Int) (word : ByteArray) (a v : Int) : Option (List Int) :=
  if v < 0 ∨ 1099511627776 < v then none
  else if word = wQuota then (if a = 0 then some (c.set 1 v) else none)
  else if word = wAge then (if a = 0 then some (c.set 2 v) else none)
  else if word = wPeriod then (if a < 1 ∨ c.getD 0 0 < a ∨ 7 ≤ a then none else some (c.set (3 + a.toNat) v))
  else if word = wRoom then (if a < 0 ∨ c.getD 0 0 < a ∨ 7 ≤ a then none else some (c.set (10 + a.toNat) v))
  else none
def retS (o : Option (List Int)) : Value := .tuple #[.agg (vals (o.getD zeros)), .int .i64 (if o.isSome then 0 else 1)]

theorem mixed : Try.prog.follows .mixedOrders = true := by kernel_rfl
theorem kt24 : kindT Try.prog 24 = some (some 17) := by kernel_rfl
theorem kt25 : kindT Try.prog 25 = some none := by kernel_rfl
theorem kt3 : kindT Try.prog 3 = some none := by kernel_rfl
theorem zt24 : zeroT Try.prog 24 = some (vals zeros) := by kernel_rfl
theorem vals_size (c : List Int) : (vals c).size = c.length := by simp [vals]
theorem vals_one (c : List Int) : (vals c).all (·.oneCell') = true := by
  simp only [vals, List.all_toArray, List.all_map, List.all_eq_true]
  intro x _; rfl
theorem build0 (w : World) : (Instr.build 24 #[]).run Try.prog w = .ok (.agg (vals zeros)) w := by kernel_rfl
theorem build2 (n : Int) (w : World) : (Instr.build 24 #[(0, .int .i64 n), (1, .int .i64 100000)]).run Try.prog w = .ok (.agg (vals [n, 100000, 0, 0, 0, 0, 0, 0, 0, 0, 0, 0, 0, 0, 0, 0, 0])) w := by kernel_rfl

set_option maxHeartbeats 400000 in
theorem start_calls (n : Int) (w : World) : Calls Try.prog 5 #[.int .i64 n] w (Ret fun r w' => r = retS (startM n) ∧ Below w.heap.size w w') := by
  refine calls_W (args := [_]) Try.func5 rfl Try.ntmps5 Try.results5 (by simp) ?_
  (repeat first | refine W_seq ?_ | refine seqQ_normal ?_ | refine W_skip ?_ | refine blkQ_normal ?_); refine W_reg (fun K hK => ?_); simp only [push_cast, Nat.reduceBEq, Nat.reduceAdd, Nat.reduceLT, Nat.reduceEqDiff, reduceIte, reduceCtorEq, Nat.reduceLeDiff, Nat.reduceSub, zt24]; refine hK _ _ ?_; clear hK K
  have hz := Blk.new w (vals zeros) 24
  have hbel := (Below.refl w.heap.size w).alloc (Nat.le_refl _) (.cells (vals zeros) 24)
  generalize hw1 : w.alloc (.cells (vals zeros) 24) = w1 at *
  clear hw1
  cases h0 : decide (n < 1)
  · (repeat first | refine W_seq ?_ | refine seqQ_normal ?_ | refine W_skip ?_ | refine blkQ_normal ?_); refine W_reg (fun K hK => ?_); simp only [push_cast, Nat.reduceBEq, Nat.reduceAdd, Nat.reduceLT, Nat.reduceEqDiff, reduceIte, reduceCtorEq, Nat.reduceLeDiff, Nat.reduceSub, h0]; refine hK _ _ ?_; clear hK K
    (repeat first | refine W_seq ?_ | refine seqQ_normal ?_ | refine W_skip ?_ | refine blkQ_normal ?_)
    refine W_cond rfl (fun h => ?_) (fun h => ?_)
    · (repeat first | refine W_seq ?_ | refine seqQ_normal ?_ | refine W_skip ?_ | refine blkQ_normal ?_); refine W_reg (fun K hK => ?_); simp only [push_cast, Nat.reduceBEq, Nat.reduceAdd, Nat.reduceLT, Nat.reduceEqDiff, reduceIte, reduceCtorEq, Nat.reduceLeDiff, Nat.reduceSub]
      refine ⟨_, build0, ?_⟩
      refine v2s ?_; try simp only [push_cast, Nat.reduceBEq, Nat.reduceAdd, Nat.reduceLT, Nat.reduceEqDiff, reduceIte, reduceCtorEq, Nat.reduceLeDiff, Nat.reduceSub]
      obtain ⟨w2, hr, hb2, ho⟩ := storeAll (P := Try.prog) (ty := 24) hz (by rw [kt24]; rfl) (vals_one zeros) rfl
      refine ⟨w2, hr, ?_⟩
      refine v2s ?_; try simp only [push_cast, Nat.reduceBEq, Nat.reduceAdd, Nat.reduceLT, Nat.reduceEqDiff, reduceIte, reduceCtorEq, Nat.reduceLeDiff, Nat.reduceSub]
      refine hK _ _ ?_; clear hK K
      (repeat first | refine seqQ_ret ?_ | refine seqQ_exit ?_ | refine blkQ_exit ?_ | refine blkQ_other rfl ?_ | refine blkQ_ret ?_ | refine blkQ_normal ?_ | refine W_seq ?_ | refine seqQ_normal ?_ | refine W_skip ?_ | refine W_exit ?_ | refine W_ret ?_)
      simp only [funQ, resE, tup, lk, Nat.reduceEqDiff, reduceIte, reduceCtorEq, kt24]
      refine ⟨_, hb2.cells rfl, ?_, ho.below hbel (Nat.le_refl _)⟩
      have : startM n = none := by simp only [startM]; rw [if_pos]; right; simpa using h
      rw [this]; rfl
    · (repeat first | refine W_seq ?_ | refine seqQ_normal ?_ | refine W_skip ?_ | refine blkQ_normal ?_); refine W_reg (fun K hK => ?_); simp only [push_cast, Nat.reduceBEq, Nat.reduceAdd, Nat.reduceLT, Nat.reduceEqDiff, reduceIte, reduceCtorEq, Nat.reduceLeDiff, Nat.reduceSub]
      refine ⟨_, build2 n, ?_⟩
      refine v2s ?_; try simp only [push_cast, Nat.reduceBEq, Nat.reduceAdd, Nat.reduceLT, Nat.reduceEqDiff, reduceIte, reduceCtorEq, Nat.reduceLeDiff, Nat.reduceSub]
      obtain ⟨w2, hr, hb2, ho⟩ := storeAll (P := Try.prog) (ty := 24) hz (by rw [kt24]; rfl) (vals_one [n, 100000, 0, 0, 0, 0, 0, 0, 0, 0, 0, 0, 0, 0, 0, 0, 0]) rfl
      refine ⟨w2, hr, ?_⟩
      refine v2s ?_; try simp only [push_cast, Nat.reduceBEq, Nat.reduceAdd, Nat.reduceLT, Nat.reduceEqDiff, reduceIte, reduceCtorEq, Nat.reduceLeDiff, Nat.reduceSub]
      refine hK _ _ ?_; clear hK K
      (repeat first | refine seqQ_ret ?_ | refine seqQ_exit ?_ | refine blkQ_exit ?_ | refine blkQ_other rfl ?_ | refine blkQ_ret ?_ | refine blkQ_normal ?_ | refine W_seq ?_ | refine seqQ_normal ?_ | refine W_skip ?_ | refine W_exit ?_ | refine W_ret ?_)
      simp only [funQ, resE, tup, lk, Nat.reduceEqDiff, reduceIte, reduceCtorEq, kt24]
      refine ⟨_, hb2.cells rfl, ?_, ho.below hbel (Nat.le_refl _)⟩
      have : startM n = some [n, 100000, 0, 0, 0, 0, 0, 0, 0, 0, 0, 0, 0, 0, 0, 0, 0] := by simp only [startM]; rw [if_neg]; simp at h h0; omega
      rw [this]; rfl
  · (repeat first | refine W_seq ?_ | refine seqQ_normal ?_ | refine W_skip ?_ | refine blkQ_normal ?_); refine W_reg (fun K hK => ?_); simp only [push_cast, Nat.reduceBEq, Nat.reduceAdd, Nat.reduceLT, Nat.reduceEqDiff, reduceIte, reduceCtorEq, Nat.reduceLeDiff, Nat.reduceSub, h0]; refine hK _ _ ?_; clear hK K
    (repeat first | refine W_seq ?_ | refine seqQ_normal ?_ | refine W_skip ?_ | refine blkQ_normal ?_)
    refine W_true rfl ?_
    (repeat first | refine W_seq ?_ | refine seqQ_normal ?_ | refine W_skip ?_ | refine blkQ_normal ?_); refine W_reg (fun K hK => ?_); simp only [push_cast, Nat.reduceBEq, Nat.reduceAdd, Nat.reduceLT, Nat.reduceEqDiff, reduceIte, reduceCtorEq, Nat.reduceLeDiff, Nat.reduceSub]
    refine ⟨_, build0, ?_⟩
    refine v2s ?_; try simp only [push_cast, Nat.reduceBEq, Nat.reduceAdd, Nat.reduceLT, Nat.reduceEqDiff, reduceIte, reduceCtorEq, Nat.reduceLeDiff, Nat.reduceSub]
    obtain ⟨w2, hr, hb2, ho⟩ := storeAll (P := Try.prog) (ty := 24) hz (by rw [kt24]; rfl) (vals_one zeros) rfl
    refine ⟨w2, hr, ?_⟩
    refine v2s ?_; try simp only [push_cast, Nat.reduceBEq, Nat.reduceAdd, Nat.reduceLT, Nat.reduceEqDiff, reduceIte, reduceCtorEq, Nat.reduceLeDiff, Nat.reduceSub]
    refine hK _ _ ?_; clear hK K
    (repeat first | refine seqQ_ret ?_ | refine seqQ_exit ?_ | refine blkQ_exit ?_ | refine blkQ_other rfl ?_ | refine blkQ_ret ?_ | refine blkQ_normal ?_ | refine W_seq ?_ | refine seqQ_normal ?_ | refine W_skip ?_ | refine W_exit ?_ | refine W_ret ?_)
    simp only [funQ, resE, tup, lk, Nat.reduceEqDiff, reduceIte, reduceCtorEq, kt24]
    refine ⟨_, hb2.cells rfl, ?_, ho.below hbel (Nat.le_refl _)⟩
    have : startM n = none := by simp only [startM]; rw [if_pos]; left; simpa using h0
    rw [this]; rfl

theorem vals_set (c : List Int) (i : Nat) (v : Int) : (vals c).setIfInBounds i (.int .i64 v) = vals (c.set i v) := by simp [vals, List.map_set]
theorem vals_get {c : List Int} {i : Nat} (h : i < c.length) : (vals c)[i]? = some (.int .i64 (c.getD i 0)) := by
  simp [vals, h]
theorem fo0 : fOff Try.prog 24 0 = some 0 := by kernel_rfl
theorem fo1 : fOff Try.prog 24 1 = some 1 := by kernel_rfl
theorem fo2 : fOff Try.prog 24 2 = some 2 := by kernel_rfl
theorem fo3 : fOff Try.prog 24 3 = some 3 := by kernel_rfl
theorem fo4 : fOff Try.prog 24 4 = some 10 := by kernel_rfl
theorem ua22 : uArr Try.prog 22 = some (7, 1) := by kernel_rfl

set_option maxHeartbeats 400000 in
theorem refStart_calls (n : Int) (w : World) : Calls Try.prog 6 #[.int .i64 n] w (Ret fun r w' => r = retS (startM n) ∧ Below w.heap.size w w') := by
  refine calls_W (args := [_]) Try.func6 rfl Try.ntmps6 Try.results6 (by simp) ?_
  (repeat first | refine W_seq ?_ | refine seqQ_normal ?_ | refine W_skip ?_ | refine blkQ_normal ?_); refine W_reg (fun K hK => ?_); simp only [push_cast, Nat.reduceBEq, Nat.reduceAdd, Nat.reduceLT, Nat.reduceEqDiff, reduceIte, reduceCtorEq, Nat.reduceLeDiff, Nat.reduceSub, zt24]; refine hK _ _ ?_; clear hK K
  have hz := Blk.new w (vals zeros) 24
  have hbel := (Below.refl w.heap.size w).alloc (Nat.le_refl _) (.cells (vals zeros) 24)
  generalize hw1 : w.alloc (.cells (vals zeros) 24) = w1 at *
  clear hw1
  (repeat first | refine W_seq ?_ | refine seqQ_normal ?_ | refine W_skip ?_ | refine blkQ_normal ?_); refine W_reg (fun K hK => ?_); simp only [push_cast, Nat.reduceBEq, Nat.reduceAdd, Nat.reduceLT, Nat.reduceEqDiff, reduceIte, reduceCtorEq, Nat.reduceLeDiff, Nat.reduceSub, zt24]; refine hK _ _ ?_; clear hK K
  have hz2 := Blk.new w1 (vals zeros) 24
  have hne : w.heap.size ≠ w1.heap.size := fun e => by have := hz.lt; omega
  have hlt : w.heap.size ≤ w1.heap.size := Nat.le_of_lt hz.lt
  replace hbel := hbel.alloc hlt (.cells (vals zeros) 24)
  replace hz := hz.alloc (.cells (vals zeros) 24)
  generalize hw2 : w1.alloc (.cells (vals zeros) 24) = w2 at *
  clear hw2
  have bad : ∀ (h : n < 1 ∨ 6 < n), startM n = none := fun h => by simp only [startM]; rw [if_pos h]
  cases h0 : decide (n < 1)
  · (repeat first | refine W_seq ?_ | refine seqQ_normal ?_ | refine W_skip ?_ | refine blkQ_normal ?_); refine W_reg (fun K hK => ?_); simp only [push_cast, Nat.reduceBEq, Nat.reduceAdd, Nat.reduceLT, Nat.reduceEqDiff, reduceIte, reduceCtorEq, Nat.reduceLeDiff, Nat.reduceSub, h0]; refine hK _ _ ?_; clear hK K
    (repeat first | refine W_seq ?_ | refine seqQ_normal ?_ | refine W_skip ?_ | refine blkQ_normal ?_)
    refine W_cond rfl (fun h => ?_) (fun h => ?_)
    · (repeat first | refine W_seq ?_ | refine seqQ_normal ?_ | refine W_skip ?_ | refine blkQ_normal ?_); refine W_reg (fun K hK => ?_); simp only [push_cast, Nat.reduceBEq, Nat.reduceAdd, Nat.reduceLT, Nat.reduceEqDiff, reduceIte, reduceCtorEq, Nat.reduceLeDiff, Nat.reduceSub, kt24]
      refine ⟨_, hz2.cells rfl, ?_⟩
      refine v2s ?_; try simp only [push_cast, Nat.reduceBEq, Nat.reduceAdd, Nat.reduceLT, Nat.reduceEqDiff, reduceIte, reduceCtorEq, Nat.reduceLeDiff, Nat.reduceSub, kt24]
      obtain ⟨w3, hr, hb3, ho⟩ := storeAll (P := Try.prog) (ty := 24) hz (by rw [kt24]; rfl) (vals_one zeros) rfl
      refine ⟨w3, hr, ?_⟩
      refine v2s ?_; try simp only [push_cast, Nat.reduceBEq, Nat.reduceAdd, Nat.reduceLT, Nat.reduceEqDiff, reduceIte, reduceCtorEq, Nat.reduceLeDiff, Nat.reduceSub]
      refine hK _ _ ?_; clear hK K
      (repeat first | refine seqQ_ret ?_ | refine seqQ_exit ?_ | refine blkQ_exit ?_ | refine blkQ_other rfl ?_ | refine blkQ_ret ?_ | refine blkQ_normal ?_ | refine W_seq ?_ | refine seqQ_normal ?_ | refine W_skip ?_ | refine W_exit ?_ | refine W_ret ?_)
      simp only [funQ, resE, tup, lk, Nat.reduceEqDiff, reduceIte, reduceCtorEq, kt24]
      refine ⟨_, hb3.cells rfl, ?_, ho.below hbel (Nat.le_refl _)⟩
      rw [bad (.inr (by simpa using h))]; rfl
    · (repeat first | refine W_seq ?_ | refine seqQ_normal ?_ | refine W_skip ?_ | refine blkQ_normal ?_); refine W_reg (fun K hK => ?_); simp only [push_cast, Nat.reduceBEq, Nat.reduceAdd, Nat.reduceLT, Nat.reduceEqDiff, reduceIte, reduceCtorEq, Nat.reduceLeDiff, Nat.reduceSub, fo0, kt3]
      obtain ⟨w3, hr, hb3, ho3⟩ := store1 (P := Try.prog) (ty := 3) (i := 0) (v := .int .i64 n) hz2 kt3 rfl (by decide)
      refine ⟨w3, hr, ?_⟩
      refine v2s ?_; try simp only [push_cast, Nat.reduceBEq, Nat.reduceAdd, Nat.reduceLT, Nat.reduceEqDiff, reduceIte, reduceCtorEq, Nat.reduceLeDiff, Nat.reduceSub]
      refine hK _ _ ?_; clear hK K
      rw [vals_set] at hb3
      (repeat first | refine W_seq ?_ | refine seqQ_normal ?_ | refine W_skip ?_ | refine blkQ_normal ?_); refine W_reg (fun K hK => ?_); simp only [push_cast, Nat.reduceBEq, Nat.reduceAdd, Nat.reduceLT, Nat.reduceEqDiff, reduceIte, reduceCtorEq, Nat.reduceLeDiff, Nat.reduceSub, fo1, kt3]
      obtain ⟨w4, hr, hb4, ho4⟩ := store1 (P := Try.prog) (ty := 3) (i := 1) (v := .int .i64 100000) hb3 kt3 rfl (by simp [vals_size, zeros])
      refine ⟨w4, hr, ?_⟩
      refine v2s ?_; try simp only [push_cast, Nat.reduceBEq, Nat.reduceAdd, Nat.reduceLT, Nat.reduceEqDiff, reduceIte, reduceCtorEq, Nat.reduceLeDiff, Nat.reduceSub]
      refine hK _ _ ?_; clear hK K
      rw [vals_set] at hb4
      (repeat first | refine W_seq ?_ | refine seqQ_normal ?_ | refine W_skip ?_ | refine blkQ_normal ?_); refine W_reg (fun K hK => ?_); simp only [push_cast, Nat.reduceBEq, Nat.reduceAdd, Nat.reduceLT, Nat.reduceEqDiff, reduceIte, reduceCtorEq, Nat.reduceLeDiff, Nat.reduceSub, kt24]
      refine ⟨_, hb4.cells (by simp [vals_size, zeros]), ?_⟩
      refine v2s ?_; try simp only [push_cast, Nat.reduceBEq, Nat.reduceAdd, Nat.reduceLT, Nat.reduceEqDiff, reduceIte, reduceCtorEq, Nat.reduceLeDiff, Nat.reduceSub, kt24]
      obtain ⟨w5, hr, hb5, ho5⟩ := storeAll (P := Try.prog) (ty := 24) ((hz.only ho3 hne).only ho4 hne) (by rw [kt24]; rfl) (vals_one ((zeros.set 0 n).set 1 100000)) rfl
      refine ⟨w5, hr, ?_⟩
      refine v2s ?_; try simp only [push_cast, Nat.reduceBEq, Nat.reduceAdd, Nat.reduceLT, Nat.reduceEqDiff, reduceIte, reduceCtorEq, Nat.reduceLeDiff, Nat.reduceSub]
      refine hK _ _ ?_; clear hK K
      (repeat first | refine seqQ_ret ?_ | refine seqQ_exit ?_ | refine blkQ_exit ?_ | refine blkQ_other rfl ?_ | refine blkQ_ret ?_ | refine blkQ_normal ?_ | refine W_seq ?_ | refine seqQ_normal ?_ | refine W_skip ?_ | refine W_exit ?_ | refine W_ret ?_)
      simp only [funQ, resE, tup, lk, Nat.reduceEqDiff, reduceIte, reduceCtorEq, kt24]
      refine ⟨_, hb5.cells rfl, ?_, ho5.below (ho4.below (ho3.below hbel hlt) hlt) (Nat.le_refl _)⟩
      have : startM n = some [n, 100000, 0, 0, 0, 0, 0, 0, 0, 0, 0, 0, 0, 0, 0, 0, 0] := by simp only [startM]; rw [if_neg]; simp at h h0; omega
      rw [this]; rfl
  · (repeat first | refine W_seq ?_ | refine seqQ_normal ?_ | refine W_skip ?_ | refine blkQ_normal ?_); refine W_reg (fun K hK => ?_); simp only [push_cast, Nat.reduceBEq, Nat.reduceAdd, Nat.reduceLT, Nat.reduceEqDiff, reduceIte, reduceCtorEq, Nat.reduceLeDiff, Nat.reduceSub, h0]; refine hK _ _ ?_; clear hK K
    (repeat first | refine W_seq ?_ | refine seqQ_normal ?_ | refine W_skip ?_ | refine blkQ_normal ?_)
    refine W_true rfl ?_
    (repeat first | refine W_seq ?_ | refine seqQ_normal ?_ | refine W_skip ?_ | refine blkQ_normal ?_); refine W_reg (fun K hK => ?_); simp only [push_cast, Nat.reduceBEq, Nat.reduceAdd, Nat.reduceLT, Nat.reduceEqDiff, reduceIte, reduceCtorEq, Nat.reduceLeDiff, Nat.reduceSub, kt24]
    refine ⟨_, hz2.cells rfl, ?_⟩
    refine v2s ?_; try simp only [push_cast, Nat.reduceBEq, Nat.reduceAdd, Nat.reduceLT, Nat.reduceEqDiff, reduceIte, reduceCtorEq, Nat.reduceLeDiff, Nat.reduceSub, kt24]
    obtain ⟨w3, hr, hb3, ho⟩ := storeAll (P := Try.prog) (ty := 24) hz (by rw [kt24]; rfl) (vals_one zeros) rfl
    refine ⟨w3, hr, ?_⟩
    refine v2s ?_; try simp only [push_cast, Nat.reduceBEq, Nat.reduceAdd, Nat.reduceLT, Nat.reduceEqDiff, reduceIte, reduceCtorEq, Nat.reduceLeDiff, Nat.reduceSub]
    refine hK _ _ ?_; clear hK K
    (repeat first | refine seqQ_ret ?_ | refine seqQ_exit ?_ | refine blkQ_exit ?_ | refine blkQ_other rfl ?_ | refine blkQ_ret ?_ | refine blkQ_normal ?_ | refine W_seq ?_ | refine seqQ_normal ?_ | refine W_skip ?_ | refine W_exit ?_ | refine W_ret ?_)
    simp only [funQ, resE, tup, lk, Nat.reduceEqDiff, reduceIte, reduceCtorEq, kt24]
    refine ⟨_, hb3.cells rfl, ?_, ho.below hbel (Nat.le_refl _)⟩
    rw [bad (.inl (by simpa using h0))]; rfl

/-- The end of the program's Set: all is refused. -/
theorem set_bad {c : List Int} {word : ByteArray} {a v : Int} (h : setM c word a v = none) : retS (setM c word a v) = .tuple #[.agg (vals zeros), .int .i64 1] := by rw [h]; rfl
theorem set_good {c : List Int} {word : ByteArray} {a v : Int} {i : Nat} (h : setM c word a v = some (c.set i v)) : retS (setM c word a v) = .tuple #[.agg (vals (c.set i v)), .int .i64 0] := by rw [h]; rfl

set_option maxHeartbeats 1000000 in
theorem set_calls (c : List Int) (hc : c.length = 17) (word : ByteArray) (a v : Int) (w : World) :
    Calls Try.prog 7 #[.agg (vals c), .string word, .int .i64 a, .int .i64 v] w (Ret fun r w' => r = retS (setM c word a v) ∧ Below w.heap.size w w') := by
  refine calls_W (args := [_, _, _, _]) Try.func7 rfl Try.ntmps7 Try.results7 (by simp) ?_
  (repeat first | refine W_seq ?_ | refine seqQ_normal ?_ | refine W_skip ?_ | refine blkQ_normal ?_); refine W_reg (fun K hK => ?_); simp only [push_cast, Nat.reduceBEq, Nat.reduceAdd, Nat.reduceLT, Nat.reduceEqDiff, reduceIte, reduceCtorEq, Nat.reduceLeDiff, Nat.reduceSub, zt24, Value.cells]; refine hK _ _ ?_; clear hK K
  have hs := Blk.new w (vals c) 24
  have hbel := (Below.refl w.heap.size w).alloc (Nat.le_refl _) (.cells (vals c) 24)
  generalize hw1 : w.alloc (.cells (vals c) 24) = w1 at *
  clear hw1
  have hz := Blk.new w1 (vals zeros) 24
  have hne : w.heap.size ≠ w1.heap.size := fun e => by have := hs.lt; omega
  have hlt : w.heap.size ≤ w1.heap.size := Nat.le_of_lt hs.lt
  replace hbel := hbel.alloc hlt (.cells (vals zeros) 24)
  replace hs := hs.alloc (.cells (vals zeros) 24)
  generalize hw2 : w1.alloc (.cells (vals zeros) 24) = w2 at *
  clear hw2
  generalize hS : w.heap.size = S at *
  generalize hD : w1.heap.size = D at *
  -- how every refusal goes
  have refuse : ∀ (l : Env) (Q : Post) (m : Nat), lk l 8 = some (.pointer (some ⟨D, 0, none⟩)) → True := fun _ _ _ _ => trivial
  have hsp : w2.cell? ⟨S, 0, none⟩ = some (.int .i64 (c.getD 0 0)) := by rw [hs.cell]; exact vals_get (by omega)
  obtain ⟨wz, hzr, hzb, hzo⟩ := storeAll (P := Try.prog) (ty := 24) hz (by rw [kt24]; rfl) (vals_one zeros) rfl
  have hzbel := hzo.below hbel hlt
  have good : ∀ i, i < 17 → ∃ w3, (storeVar 3 ⟨S, i, none⟩ (.int .i64 v)).run Try.prog w2 = .ok () w3 ∧ CellsAt w3 ⟨S, 0, none⟩ 17 (vals (c.set i v)) ∧
      ∃ w4, (storeVar 24 ⟨D, 0, none⟩ (.agg (vals (c.set i v)))).run Try.prog w3 = .ok () w4 ∧ CellsAt w4 ⟨D, 0, none⟩ 17 (vals (c.set i v)) ∧ Below S w w4 := by
    intro i hi
    obtain ⟨w3, hr3, hb3, ho3⟩ := store1 (P := Try.prog) (ty := 3) (i := i) (v := .int .i64 v) hs kt3 rfl (by rw [vals_size]; omega)
    rw [vals_set] at hb3
    obtain ⟨w4, hr4, hb4, ho4⟩ := storeAll (P := Try.prog) (ty := 24) (hz.only ho3 (Ne.symm hne)) (by rw [kt24, vals_size, List.length_set, hc]) (vals_one (c.set i v)) (by rw [vals_size, vals_size, List.length_set, hc]; rfl)
    exact ⟨w3, hr3, hb3.cells (by rw [vals_size, List.length_set, hc]), w4, hr4, hb4.cells (by rw [vals_size, List.length_set, hc]), ho4.below (ho3.below hbel (Nat.le_refl _)) hlt⟩
  cases h0 : decide (v < 0)
  · (repeat first | refine W_seq ?_ | refine seqQ_normal ?_ | refine W_skip ?_ | refine blkQ_normal ?_); refine W_reg (fun K hK => ?_); simp only [push_cast, Nat.reduceBEq, Nat.reduceAdd, Nat.reduceLT, Nat.reduceEqDiff, reduceIte, reduceCtorEq, Nat.reduceLeDiff, Nat.reduceSub, h0]; refine hK _ _ ?_; clear hK K
    (repeat first | refine W_seq ?_ | refine seqQ_normal ?_ | refine W_skip ?_ | refine blkQ_normal ?_)
    refine W_cond rfl (fun h => ?_) (fun h1 => ?_)
    · (repeat first | refine W_seq ?_ | refine seqQ_normal ?_ | refine W_skip ?_ | refine blkQ_normal ?_); refine W_reg (fun K hK => ?_); simp only [push_cast, Nat.reduceBEq, Nat.reduceAdd, Nat.reduceLT, Nat.reduceEqDiff, reduceIte, reduceCtorEq, Nat.reduceLeDiff, Nat.reduceSub]
      refine ⟨_, build0, ?_⟩
      refine v2s ?_; try simp only [push_cast, Nat.reduceBEq, Nat.reduceAdd, Nat.reduceLT, Nat.reduceEqDiff, reduceIte, reduceCtorEq, Nat.reduceLeDiff, Nat.reduceSub]
      refine ⟨wz, hzr, ?_⟩
      refine v2s ?_; try simp only [push_cast, Nat.reduceBEq, Nat.reduceAdd, Nat.reduceLT, Nat.reduceEqDiff, reduceIte, reduceCtorEq, Nat.reduceLeDiff, Nat.reduceSub]
      refine hK _ _ ?_; clear hK K
      (repeat first | refine seqQ_ret ?_ | refine seqQ_exit ?_ | refine blkQ_exit ?_ | refine blkQ_other rfl ?_ | refine blkQ_ret ?_ | refine blkQ_normal ?_ | refine W_seq ?_ | refine seqQ_normal ?_ | refine W_skip ?_ | refine W_exit ?_ | refine W_ret ?_)
      simp only [funQ, resE, tup, lk, Nat.reduceEqDiff, reduceIte, reduceCtorEq, kt24]
      exact ⟨_, hzb.cells rfl, (set_bad (by unfold setM; rw [if_pos (.inr (by simpa using h))])).symm, hzbel⟩
    · have hv : ¬ (v < 0 ∨ 1099511627776 < v) := by simp at h0 h1; omega
      (repeat first | refine W_seq ?_ | refine seqQ_normal ?_ | refine W_skip ?_ | refine blkQ_normal ?_); refine W_reg (fun K hK => ?_); simp only [push_cast, Nat.reduceBEq, Nat.reduceAdd, Nat.reduceLT, Nat.reduceEqDiff, reduceIte, reduceCtorEq, Nat.reduceLeDiff, Nat.reduceSub]; refine hK _ _ ?_; clear hK K
      (repeat first | refine W_seq ?_ | refine seqQ_normal ?_ | refine W_skip ?_ | refine blkQ_normal ?_); refine W_block ?_
      (repeat first | refine W_seq ?_ | refine seqQ_normal ?_ | refine W_skip ?_ | refine blkQ_normal ?_); refine W_reg (fun K hK => ?_); simp only [push_cast, Nat.reduceBEq, Nat.reduceAdd, Nat.reduceLT, Nat.reduceEqDiff, reduceIte, reduceCtorEq, Nat.reduceLeDiff, Nat.reduceSub]; refine hK _ _ ?_; clear hK K
      (repeat first | refine W_seq ?_ | refine seqQ_normal ?_ | refine W_skip ?_ | refine blkQ_normal ?_)
      refine W_cond rfl (fun hq => ?_) (fun hq => ?_)
      · have hq : word = wQuota := of_decide_eq_true hq
        subst hq
        (repeat first | refine W_seq ?_ | refine seqQ_normal ?_ | refine W_skip ?_ | refine blkQ_normal ?_)
        refine W_true rfl ?_
        (repeat first | refine W_seq ?_ | refine seqQ_normal ?_ | refine W_skip ?_ | refine blkQ_normal ?_); refine W_reg (fun K hK => ?_); simp only [push_cast, Nat.reduceBEq, Nat.reduceAdd, Nat.reduceLT, Nat.reduceEqDiff, reduceIte, reduceCtorEq, Nat.reduceLeDiff, Nat.reduceSub]; refine hK _ _ ?_; clear hK K
        (repeat first | refine W_seq ?_ | refine seqQ_normal ?_ | refine W_skip ?_ | refine blkQ_normal ?_)
        refine W_cond rfl (fun ha => ?_) (fun ha => ?_)
        · (repeat first | refine W_seq ?_ | refine seqQ_normal ?_ | refine W_skip ?_ | refine blkQ_normal ?_); refine W_reg (fun K hK => ?_); simp only [push_cast, Nat.reduceBEq, Nat.reduceAdd, Nat.reduceLT, Nat.reduceEqDiff, reduceIte, reduceCtorEq, Nat.reduceLeDiff, Nat.reduceSub]
          refine ⟨_, build0, ?_⟩
          refine v2s ?_; try simp only [push_cast, Nat.reduceBEq, Nat.reduceAdd, Nat.reduceLT, Nat.reduceEqDiff, reduceIte, reduceCtorEq, Nat.reduceLeDiff, Nat.reduceSub]
          refine ⟨wz, hzr, ?_⟩
          refine v2s ?_; try simp only [push_cast, Nat.reduceBEq, Nat.reduceAdd, Nat.reduceLT, Nat.reduceEqDiff, reduceIte, reduceCtorEq, Nat.reduceLeDiff, Nat.reduceSub]
          refine hK _ _ ?_; clear hK K
          (repeat first | refine seqQ_ret ?_ | refine seqQ_exit ?_ | refine blkQ_exit ?_ | refine blkQ_other rfl ?_ | refine blkQ_ret ?_ | refine blkQ_normal ?_ | refine W_seq ?_ | refine seqQ_normal ?_ | refine W_skip ?_ | refine W_exit ?_ | refine W_ret ?_)
          simp only [funQ, resE, tup, lk, Nat.reduceEqDiff, reduceIte, reduceCtorEq, kt24]
          exact ⟨_, hzb.cells rfl, (set_bad (by unfold setM; rw [if_neg hv, if_pos rfl, if_neg (by simpa using ha)])).symm, hzbel⟩
        · (repeat first | refine W_seq ?_ | refine seqQ_normal ?_ | refine W_skip ?_ | refine blkQ_normal ?_); refine W_reg (fun K hK => ?_); simp only [push_cast, Nat.reduceBEq, Nat.reduceAdd, Nat.reduceLT, Nat.reduceEqDiff, reduceIte, reduceCtorEq, Nat.reduceLeDiff, Nat.reduceSub]; refine hK _ _ ?_; clear hK K
          (repeat first | refine W_seq ?_ | refine seqQ_normal ?_ | refine W_skip ?_ | refine blkQ_normal ?_)
          refine W_true rfl ?_
          (repeat first | refine W_seq ?_ | refine seqQ_normal ?_ | refine W_skip ?_ | refine blkQ_normal ?_); refine W_reg (fun K hK => ?_); simp only [push_cast, Nat.reduceBEq, Nat.reduceAdd, Nat.reduceLT, Nat.reduceEqDiff, reduceIte, reduceCtorEq, Nat.reduceLeDiff, Nat.reduceSub, fo1, kt3, ua22]
          obtain ⟨w3, hr3, hc3, w4, hr4, hc4, hb4⟩ := good 1 (by omega)
          refine ⟨w3, hr3, ?_⟩
          refine v2s ?_; try simp only [push_cast, Nat.reduceBEq, Nat.reduceAdd, Nat.reduceLT, Nat.reduceEqDiff, reduceIte, reduceCtorEq, Nat.reduceLeDiff, Nat.reduceSub]
          refine hK _ _ ?_; clear hK K
          (repeat first | refine seqQ_ret ?_ | refine seqQ_exit ?_ | refine blkQ_exit ?_ | refine blkQ_other rfl ?_ | refine blkQ_ret ?_ | refine blkQ_normal ?_ | refine W_seq ?_ | refine seqQ_normal ?_ | refine W_skip ?_ | refine W_exit ?_ | refine W_ret ?_)
          (repeat first | refine W_seq ?_ | refine seqQ_normal ?_ | refine W_skip ?_ | refine blkQ_normal ?_); refine W_reg (fun K hK => ?_); simp only [push_cast, Nat.reduceBEq, Nat.reduceAdd, Nat.reduceLT, Nat.reduceEqDiff, reduceIte, reduceCtorEq, Nat.reduceLeDiff, Nat.reduceSub, kt24]
          refine ⟨_, hc3, ?_⟩
          refine v2s ?_; try simp only [push_cast, Nat.reduceBEq, Nat.reduceAdd, Nat.reduceLT, Nat.reduceEqDiff, reduceIte, reduceCtorEq, Nat.reduceLeDiff, Nat.reduceSub]
          refine ⟨w4, hr4, ?_⟩
          refine v2s ?_; try simp only [push_cast, Nat.reduceBEq, Nat.reduceAdd, Nat.reduceLT, Nat.reduceEqDiff, reduceIte, reduceCtorEq, Nat.reduceLeDiff, Nat.reduceSub]
          refine hK _ _ ?_; clear hK K
          (repeat first | refine seqQ_ret ?_ | refine seqQ_exit ?_ | refine blkQ_exit ?_ | refine blkQ_other rfl ?_ | refine blkQ_ret ?_ | refine blkQ_normal ?_ | refine W_seq ?_ | refine seqQ_normal ?_ | refine W_skip ?_ | refine W_exit ?_ | refine W_ret ?_)
          simp only [funQ, resE, tup, lk, Nat.reduceEqDiff, reduceIte, reduceCtorEq, kt24]
          exact ⟨_, hc4, (set_good (by unfold setM; rw [if_neg hv, if_pos rfl, if_pos (by simpa using ha)])).symm, hb4⟩
      · (repeat first | refine W_seq ?_ | refine seqQ_normal ?_ | refine W_skip ?_ | refine blkQ_normal ?_); refine W_reg (fun K hK => ?_); simp only [push_cast, Nat.reduceBEq, Nat.reduceAdd, Nat.reduceLT, Nat.reduceEqDiff, reduceIte, reduceCtorEq, Nat.reduceLeDiff, Nat.reduceSub]; refine hK _ _ ?_; clear hK K
        (repeat first | refine W_seq ?_ | refine seqQ_normal ?_ | refine W_skip ?_ | refine blkQ_normal ?_)
        have hq' : ¬ word = wQuota := of_decide_eq_false hq
        refine W_cond rfl (fun hg => ?_) (fun hg => ?_)
        · have hg : word = wAge := of_decide_eq_true hg
          subst hg
          (repeat first | refine W_seq ?_ | refine seqQ_normal ?_ | refine W_skip ?_ | refine blkQ_normal ?_); refine W_reg (fun K hK => ?_); simp only [push_cast, Nat.reduceBEq, Nat.reduceAdd, Nat.reduceLT, Nat.reduceEqDiff, reduceIte, reduceCtorEq, Nat.reduceLeDiff, Nat.reduceSub]; refine hK _ _ ?_; clear hK K
          (repeat first | refine W_seq ?_ | refine seqQ_normal ?_ | refine W_skip ?_ | refine blkQ_normal ?_)
          refine W_cond rfl (fun ha => ?_) (fun ha => ?_)
          · (repeat first | refine W_seq ?_ | refine seqQ_normal ?_ | refine W_skip ?_ | refine blkQ_normal ?_); refine W_reg (fun K hK => ?_); simp only [push_cast, Nat.reduceBEq, Nat.reduceAdd, Nat.reduceLT, Nat.reduceEqDiff, reduceIte, reduceCtorEq, Nat.reduceLeDiff, Nat.reduceSub]
            refine ⟨_, build0, ?_⟩
            refine v2s ?_; try simp only [push_cast, Nat.reduceBEq, Nat.reduceAdd, Nat.reduceLT, Nat.reduceEqDiff, reduceIte, reduceCtorEq, Nat.reduceLeDiff, Nat.reduceSub]
            refine ⟨wz, hzr, ?_⟩
            refine v2s ?_; try simp only [push_cast, Nat.reduceBEq, Nat.reduceAdd, Nat.reduceLT, Nat.reduceEqDiff, reduceIte, reduceCtorEq, Nat.reduceLeDiff, Nat.reduceSub]
            refine hK _ _ ?_; clear hK K
            (repeat first | refine seqQ_ret ?_ | refine seqQ_exit ?_ | refine blkQ_exit ?_ | refine blkQ_other rfl ?_ | refine blkQ_ret ?_ | refine blkQ_normal ?_ | refine W_seq ?_ | refine seqQ_normal ?_ | refine W_skip ?_ | refine W_exit ?_ | refine W_ret ?_)
            simp only [funQ, resE, tup, lk, Nat.reduceEqDiff, reduceIte, reduceCtorEq, kt24]
            exact ⟨_, hzb.cells rfl, (set_bad (by unfold setM; rw [if_neg hv, if_neg hq', if_pos rfl, if_neg (by simpa using ha)])).symm, hzbel⟩
          · (repeat first | refine W_seq ?_ | refine seqQ_normal ?_ | refine W_skip ?_ | refine blkQ_normal ?_); refine W_reg (fun K hK => ?_); simp only [push_cast, Nat.reduceBEq, Nat.reduceAdd, Nat.reduceLT, Nat.reduceEqDiff, reduceIte, reduceCtorEq, Nat.reduceLeDiff, Nat.reduceSub]; refine hK _ _ ?_; clear hK K
            (repeat first | refine W_seq ?_ | refine seqQ_normal ?_ | refine W_skip ?_ | refine blkQ_normal ?_)
            refine W_false rfl ?_
            (repeat first | refine W_seq ?_ | refine seqQ_normal ?_ | refine W_skip ?_ | refine blkQ_normal ?_); refine W_reg (fun K hK => ?_); simp only [push_cast, Nat.reduceBEq, Nat.reduceAdd, Nat.reduceLT, Nat.reduceEqDiff, reduceIte, reduceCtorEq, Nat.reduceLeDiff, Nat.reduceSub, fo2, kt3, ua22]
            obtain ⟨w3, hr3, hc3, w4, hr4, hc4, hb4⟩ := good 2 (by omega)
            refine ⟨w3, hr3, ?_⟩
            refine v2s ?_; try simp only [push_cast, Nat.reduceBEq, Nat.reduceAdd, Nat.reduceLT, Nat.reduceEqDiff, reduceIte, reduceCtorEq, Nat.reduceLeDiff, Nat.reduceSub]
            refine hK _ _ ?_; clear hK K
            (repeat first | refine seqQ_ret ?_ | refine seqQ_exit ?_ | refine blkQ_exit ?_ | refine blkQ_other rfl ?_ | refine blkQ_ret ?_ | refine blkQ_normal ?_ | refine W_seq ?_ | refine seqQ_normal ?_ | refine W_skip ?_ | refine W_exit ?_ | refine W_ret ?_)
            (repeat first | refine W_seq ?_ | refine seqQ_normal ?_ | refine W_skip ?_ | refine blkQ_normal ?_); refine W_reg (fun K hK => ?_); simp only [push_cast, Nat.reduceBEq, Nat.reduceAdd, Nat.reduceLT, Nat.reduceEqDiff, reduceIte, reduceCtorEq, Nat.reduceLeDiff, Nat.reduceSub, kt24]
            refine ⟨_, hc3, ?_⟩
            refine v2s ?_; try simp only [push_cast, Nat.reduceBEq, Nat.reduceAdd, Nat.reduceLT, Nat.reduceEqDiff, reduceIte, reduceCtorEq, Nat.reduceLeDiff, Nat.reduceSub]
            refine ⟨w4, hr4, ?_⟩
            refine v2s ?_; try simp only [push_cast, Nat.reduceBEq, Nat.reduceAdd, Nat.reduceLT, Nat.reduceEqDiff, reduceIte, reduceCtorEq, Nat.reduceLeDiff, Nat.reduceSub]
            refine hK _ _ ?_; clear hK K
            (repeat first | refine seqQ_ret ?_ | refine seqQ_exit ?_ | refine blkQ_exit ?_ | refine blkQ_other rfl ?_ | refine blkQ_ret ?_ | refine blkQ_normal ?_ | refine W_seq ?_ | refine seqQ_normal ?_ | refine W_skip ?_ | refine W_exit ?_ | refine W_ret ?_)
            simp only [funQ, resE, tup, lk, Nat.reduceEqDiff, reduceIte, reduceCtorEq, kt24]
            exact ⟨_, hc4, (set_good (by unfold setM; rw [if_neg hv, if_neg hq', if_pos rfl, if_pos (by simpa using ha)])).symm, hb4⟩
        · have hg' : ¬ word = wAge := of_decide_eq_false hg
          (repeat first | refine W_seq ?_ | refine seqQ_normal ?_ | refine W_skip ?_ | refine blkQ_normal ?_); refine W_reg (fun K hK => ?_); simp only [push_cast, Nat.reduceBEq, Nat.reduceAdd, Nat.reduceLT, Nat.reduceEqDiff, reduceIte, reduceCtorEq, Nat.reduceLeDiff, Nat.reduceSub]; refine hK _ _ ?_; clear hK K
          (repeat first | refine W_seq ?_ | refine seqQ_normal ?_ | refine W_skip ?_ | refine blkQ_normal ?_)
          refine W_cond rfl (fun hp => ?_) (fun hp => ?_)
          · have hp : word = wPeriod := of_decide_eq_true hp
            subst hp
            cases ha : decide (a < 1)
            · cases hb : decide (c.getD 0 0 < a)
              · (repeat first | refine W_seq ?_ | refine seqQ_normal ?_ | refine W_skip ?_ | refine blkQ_normal ?_); refine W_reg (fun K hK => ?_); simp only [push_cast, Nat.reduceBEq, Nat.reduceAdd, Nat.reduceLT, Nat.reduceEqDiff, reduceIte, reduceCtorEq, Nat.reduceLeDiff, Nat.reduceSub, ha, hb, fo0, kt3, hsp]; refine hK _ _ ?_; clear hK K
                (repeat first | refine W_seq ?_ | refine seqQ_normal ?_ | refine W_skip ?_ | refine blkQ_normal ?_)
                refine W_cond rfl (fun h7 => ?_) (fun h7 => ?_)
                · (repeat first | refine W_seq ?_ | refine seqQ_normal ?_ | refine W_skip ?_ | refine blkQ_normal ?_); refine W_reg (fun K hK => ?_); simp only [push_cast, Nat.reduceBEq, Nat.reduceAdd, Nat.reduceLT, Nat.reduceEqDiff, reduceIte, reduceCtorEq, Nat.reduceLeDiff, Nat.reduceSub]
                  refine ⟨_, build0, ?_⟩
                  refine v2s ?_; try simp only [push_cast, Nat.reduceBEq, Nat.reduceAdd, Nat.reduceLT, Nat.reduceEqDiff, reduceIte, reduceCtorEq, Nat.reduceLeDiff, Nat.reduceSub]
                  refine ⟨wz, hzr, ?_⟩
                  refine v2s ?_; try simp only [push_cast, Nat.reduceBEq, Nat.reduceAdd, Nat.reduceLT, Nat.reduceEqDiff, reduceIte, reduceCtorEq, Nat.reduceLeDiff, Nat.reduceSub]
                  refine hK _ _ ?_; clear hK K
                  (repeat first | refine seqQ_ret ?_ | refine seqQ_exit ?_ | refine blkQ_exit ?_ | refine blkQ_other rfl ?_ | refine blkQ_ret ?_ | refine blkQ_normal ?_ | refine W_seq ?_ | refine seqQ_normal ?_ | refine W_skip ?_ | refine W_exit ?_ | refine W_ret ?_)
                  simp only [funQ, resE, tup, lk, Nat.reduceEqDiff, reduceIte, reduceCtorEq, kt24]
                  exact ⟨_, hzb.cells rfl, (set_bad (by unfold setM; rw [if_neg hv, if_neg hq', if_neg hg', if_pos rfl, if_pos (.inr (.inr (by simpa using h7)))])).symm, hzbel⟩
                · simp only [decide_eq_false_iff_not] at ha hb h7
                  (repeat first | refine W_seq ?_ | refine seqQ_normal ?_ | refine W_skip ?_ | refine blkQ_normal ?_); refine W_reg (fun K hK => ?_); simp only [push_cast, Nat.reduceBEq, Nat.reduceAdd, Nat.reduceLT, Nat.reduceEqDiff, reduceIte, reduceCtorEq, Nat.reduceLeDiff, Nat.reduceSub, fo3, kt3, ua22]
                  obtain ⟨w3, hr3, hc3, w4, hr4, hc4, hb4⟩ := good (3 + a.toNat) (by omega)
                  refine ⟨by omega, w3, hr3, ?_⟩
                  refine v2s ?_; try simp only [push_cast, Nat.reduceBEq, Nat.reduceAdd, Nat.reduceLT, Nat.reduceEqDiff, reduceIte, reduceCtorEq, Nat.reduceLeDiff, Nat.reduceSub]
                  refine hK _ _ ?_; clear hK K
                  (repeat first | refine seqQ_ret ?_ | refine seqQ_exit ?_ | refine blkQ_exit ?_ | refine blkQ_other rfl ?_ | refine blkQ_ret ?_ | refine blkQ_normal ?_ | refine W_seq ?_ | refine seqQ_normal ?_ | refine W_skip ?_ | refine W_exit ?_ | refine W_ret ?_)
                  (repeat first | refine W_seq ?_ | refine seqQ_normal ?_ | refine W_skip ?_ | refine blkQ_normal ?_); refine W_reg (fun K hK => ?_); simp only [push_cast, Nat.reduceBEq, Nat.reduceAdd, Nat.reduceLT, Nat.reduceEqDiff, reduceIte, reduceCtorEq, Nat.reduceLeDiff, Nat.reduceSub, kt24]
                  refine ⟨_, hc3, ?_⟩
                  refine v2s ?_; try simp only [push_cast, Nat.reduceBEq, Nat.reduceAdd, Nat.reduceLT, Nat.reduceEqDiff, reduceIte, reduceCtorEq, Nat.reduceLeDiff, Nat.reduceSub]
                  refine ⟨w4, hr4, ?_⟩
                  refine v2s ?_; try simp only [push_cast, Nat.reduceBEq, Nat.reduceAdd, Nat.reduceLT, Nat.reduceEqDiff, reduceIte, reduceCtorEq, Nat.reduceLeDiff, Nat.reduceSub]
                  refine hK _ _ ?_; clear hK K
                  (repeat first | refine seqQ_ret ?_ | refine seqQ_exit ?_ | refine blkQ_exit ?_ | refine blkQ_other rfl ?_ | refine blkQ_ret ?_ | refine blkQ_normal ?_ | refine W_seq ?_ | refine seqQ_normal ?_ | refine W_skip ?_ | refine W_exit ?_ | refine W_ret ?_)
                  simp only [funQ, resE, tup, lk, Nat.reduceEqDiff, reduceIte, reduceCtorEq, kt24]
                  exact ⟨_, hc4, (set_good (by unfold setM; rw [if_neg hv, if_neg hq', if_neg hg', if_pos rfl, if_neg (by omega)])).symm, hb4⟩
              · (repeat first | refine W_seq ?_ | refine seqQ_normal ?_ | refine W_skip ?_ | refine blkQ_normal ?_); refine W_reg (fun K hK => ?_); simp only [push_cast, Nat.reduceBEq, Nat.reduceAdd, Nat.reduceLT, Nat.reduceEqDiff, reduceIte, reduceCtorEq, Nat.reduceLeDiff, Nat.reduceSub, ha, hb, fo0, kt3, hsp]; refine hK _ _ ?_; clear hK K
                (repeat first | refine W_seq ?_ | refine seqQ_normal ?_ | refine W_skip ?_ | refine blkQ_normal ?_)
                refine W_true rfl ?_
                (repeat first | refine W_seq ?_ | refine seqQ_normal ?_ | refine W_skip ?_ | refine blkQ_normal ?_); refine W_reg (fun K hK => ?_); simp only [push_cast, Nat.reduceBEq, Nat.reduceAdd, Nat.reduceLT, Nat.reduceEqDiff, reduceIte, reduceCtorEq, Nat.reduceLeDiff, Nat.reduceSub]
                refine ⟨_, build0, ?_⟩
                refine v2s ?_; try simp only [push_cast, Nat.reduceBEq, Nat.reduceAdd, Nat.reduceLT, Nat.reduceEqDiff, reduceIte, reduceCtorEq, Nat.reduceLeDiff, Nat.reduceSub]
                refine ⟨wz, hzr, ?_⟩
                refine v2s ?_; try simp only [push_cast, Nat.reduceBEq, Nat.reduceAdd, Nat.reduceLT, Nat.reduceEqDiff, reduceIte, reduceCtorEq, Nat.reduceLeDiff, Nat.reduceSub]
                refine hK _ _ ?_; clear hK K
                (repeat first | refine seqQ_ret ?_ | refine seqQ_exit ?_ | refine blkQ_exit ?_ | refine blkQ_other rfl ?_ | refine blkQ_ret ?_ | refine blkQ_normal ?_ | refine W_seq ?_ | refine seqQ_normal ?_ | refine W_skip ?_ | refine W_exit ?_ | refine W_ret ?_)
                simp only [funQ, resE, tup, lk, Nat.reduceEqDiff, reduceIte, reduceCtorEq, kt24]
                exact ⟨_, hzb.cells rfl, (set_bad (by unfold setM; rw [if_neg hv, if_neg hq', if_neg hg', if_pos rfl, if_pos (.inr (.inl (by simpa using hb)))])).symm, hzbel⟩
            · (repeat first | refine W_seq ?_ | refine seqQ_normal ?_ | refine W_skip ?_ | refine blkQ_normal ?_); refine W_reg (fun K hK => ?_); simp only [push_cast, Nat.reduceBEq, Nat.reduceAdd, Nat.reduceLT, Nat.reduceEqDiff, reduceIte, reduceCtorEq, Nat.reduceLeDiff, Nat.reduceSub, ha]; refine hK _ _ ?_; clear hK K
              (repeat first | refine W_seq ?_ | refine seqQ_normal ?_ | refine W_skip ?_ | refine blkQ_normal ?_)
              refine W_true rfl ?_
              (repeat first | refine W_seq ?_ | refine seqQ_normal ?_ | refine W_skip ?_ | refine blkQ_normal ?_); refine W_reg (fun K hK => ?_); simp only [push_cast, Nat.reduceBEq, Nat.reduceAdd, Nat.reduceLT, Nat.reduceEqDiff, reduceIte, reduceCtorEq, Nat.reduceLeDiff, Nat.reduceSub]
              refine ⟨_, build0, ?_⟩
              refine v2s ?_; try simp only [push_cast, Nat.reduceBEq, Nat.reduceAdd, Nat.reduceLT, Nat.reduceEqDiff, reduceIte, reduceCtorEq, Nat.reduceLeDiff, Nat.reduceSub]
              refine ⟨wz, hzr, ?_⟩
              refine v2s ?_; try simp only [push_cast, Nat.reduceBEq, Nat.reduceAdd, Nat.reduceLT, Nat.reduceEqDiff, reduceIte, reduceCtorEq, Nat.reduceLeDiff, Nat.reduceSub]
              refine hK _ _ ?_; clear hK K
              (repeat first | refine seqQ_ret ?_ | refine seqQ_exit ?_ | refine blkQ_exit ?_ | refine blkQ_other rfl ?_ | refine blkQ_ret ?_ | refine blkQ_normal ?_ | refine W_seq ?_ | refine seqQ_normal ?_ | refine W_skip ?_ | refine W_exit ?_ | refine W_ret ?_)
              simp only [funQ, resE, tup, lk, Nat.reduceEqDiff, reduceIte, reduceCtorEq, kt24]
              exact ⟨_, hzb.cells rfl, (set_bad (by unfold setM; rw [if_neg hv, if_neg hq', if_neg hg', if_pos rfl, if_pos (.inl (by simpa using ha))])).symm, hzbel⟩
          · have hp' : ¬ word = wPeriod := of_decide_eq_false hp
            (repeat first | refine W_seq ?_ | refine seqQ_normal ?_ | refine W_skip ?_ | refine blkQ_normal ?_); refine W_reg (fun K hK => ?_); simp only [push_cast, Nat.reduceBEq, Nat.reduceAdd, Nat.reduceLT, Nat.reduceEqDiff, reduceIte, reduceCtorEq, Nat.reduceLeDiff, Nat.reduceSub]; refine hK _ _ ?_; clear hK K
            (repeat first | refine W_seq ?_ | refine seqQ_normal ?_ | refine W_skip ?_ | refine blkQ_normal ?_)
            refine W_cond rfl (fun hr => ?_) (fun hr => ?_)
            · have hr : word = wRoom := of_decide_eq_true hr
              subst hr
              cases ha : decide (a < 0)
              · cases hb : decide (c.getD 0 0 < a)
                · (repeat first | refine W_seq ?_ | refine seqQ_normal ?_ | refine W_skip ?_ | refine blkQ_normal ?_); refine W_reg (fun K hK => ?_); simp only [push_cast, Nat.reduceBEq, Nat.reduceAdd, Nat.reduceLT, Nat.reduceEqDiff, reduceIte, reduceCtorEq, Nat.reduceLeDiff, Nat.reduceSub, ha, hb, fo0, kt3, hsp]; refine hK _ _ ?_; clear hK K
                  (repeat first | refine W_seq ?_ | refine seqQ_normal ?_ | refine W_skip ?_ | refine blkQ_normal ?_)
                  refine W_cond rfl (fun h7 => ?_) (fun h7 => ?_)
                  · (repeat first | refine W_seq ?_ | refine seqQ_normal ?_ | refine W_skip ?_ | refine blkQ_normal ?_); refine W_reg (fun K hK => ?_); simp only [push_cast, Nat.reduceBEq, Nat.reduceAdd, Nat.reduceLT, Nat.reduceEqDiff, reduceIte, reduceCtorEq, Nat.reduceLeDiff, Nat.reduceSub]
                    refine ⟨_, build0, ?_⟩
                    refine v2s ?_; try simp only [push_cast, Nat.reduceBEq, Nat.reduceAdd, Nat.reduceLT, Nat.reduceEqDiff, reduceIte, reduceCtorEq, Nat.reduceLeDiff, Nat.reduceSub]
                    refine ⟨wz, hzr, ?_⟩
                    refine v2s ?_; try simp only [push_cast, Nat.reduceBEq, Nat.reduceAdd, Nat.reduceLT, Nat.reduceEqDiff, reduceIte, reduceCtorEq, Nat.reduceLeDiff, Nat.reduceSub]
                    refine hK _ _ ?_; clear hK K
                    (repeat first | refine seqQ_ret ?_ | refine seqQ_exit ?_ | refine blkQ_exit ?_ | refine blkQ_other rfl ?_ | refine blkQ_ret ?_ | refine blkQ_normal ?_ | refine W_seq ?_ | refine seqQ_normal ?_ | refine W_skip ?_ | refine W_exit ?_ | refine W_ret ?_)
                    simp only [funQ, resE, tup, lk, Nat.reduceEqDiff, reduceIte, reduceCtorEq, kt24]
                    exact ⟨_, hzb.cells rfl, (set_bad (by unfold setM; rw [if_neg hv, if_neg hq', if_neg hg', if_neg hp', if_pos rfl, if_pos (.inr (.inr (by simpa using h7)))])).symm, hzbel⟩
                  · simp only [decide_eq_false_iff_not] at ha hb h7
                    (repeat first | refine W_seq ?_ | refine seqQ_normal ?_ | refine W_skip ?_ | refine blkQ_normal ?_); refine W_reg (fun K hK => ?_); simp only [push_cast, Nat.reduceBEq, Nat.reduceAdd, Nat.reduceLT, Nat.reduceEqDiff, reduceIte, reduceCtorEq, Nat.reduceLeDiff, Nat.reduceSub, fo4, kt3, ua22]
                    obtain ⟨w3, hr3, hc3, w4, hr4, hc4, hb4⟩ := good (10 + a.toNat) (by omega)
                    refine ⟨by omega, w3, hr3, ?_⟩
                    refine v2s ?_; try simp only [push_cast, Nat.reduceBEq, Nat.reduceAdd, Nat.reduceLT, Nat.reduceEqDiff, reduceIte, reduceCtorEq, Nat.reduceLeDiff, Nat.reduceSub]
                    refine hK _ _ ?_; clear hK K
                    (repeat first | refine seqQ_ret ?_ | refine seqQ_exit ?_ | refine blkQ_exit ?_ | refine blkQ_other rfl ?_ | refine blkQ_ret ?_ | refine blkQ_normal ?_ | refine W_seq ?_ | refine seqQ_normal ?_ | refine W_skip ?_ | refine W_exit ?_ | refine W_ret ?_)
                    (repeat first | refine W_seq ?_ | refine seqQ_normal ?_ | refine W_skip ?_ | refine blkQ_normal ?_); refine W_reg (fun K hK => ?_); simp only [push_cast, Nat.reduceBEq, Nat.reduceAdd, Nat.reduceLT, Nat.reduceEqDiff, reduceIte, reduceCtorEq, Nat.reduceLeDiff, Nat.reduceSub, kt24]
                    refine ⟨_, hc3, ?_⟩
                    refine v2s ?_; try simp only [push_cast, Nat.reduceBEq, Nat.reduceAdd, Nat.reduceLT, Nat.reduceEqDiff, reduceIte, reduceCtorEq, Nat.reduceLeDiff, Nat.reduceSub]
                    refine ⟨w4, hr4, ?_⟩
                    refine v2s ?_; try simp only [push_cast, Nat.reduceBEq, Nat.reduceAdd, Nat.reduceLT, Nat.reduceEqDiff, reduceIte, reduceCtorEq, Nat.reduceLeDiff, Nat.reduceSub]
                    refine hK _ _ ?_; clear hK K
                    (repeat first | refine seqQ_ret ?_ | refine seqQ_exit ?_ | refine blkQ_exit ?_ | refine blkQ_other rfl ?_ | refine blkQ_ret ?_ | refine blkQ_normal ?_ | refine W_seq ?_ | refine seqQ_normal ?_ | refine W_skip ?_ | refine W_exit ?_ | refine W_ret ?_)
                    simp only [funQ, resE, tup, lk, Nat.reduceEqDiff, reduceIte, reduceCtorEq, kt24]
                    exact ⟨_, hc4, (set_good (by unfold setM; rw [if_neg hv, if_neg hq', if_neg hg', if_neg hp', if_pos rfl, if_neg (by omega)])).symm, hb4⟩
                · (repeat first | refine W_seq ?_ | refine seqQ_normal ?_ | refine W_skip ?_ | refine blkQ_normal ?_); refine W_reg (fun K hK => ?_); simp only [push_cast, Nat.reduceBEq, Nat.reduceAdd, Nat.reduceLT, Nat.reduceEqDiff, reduceIte, reduceCtorEq, Nat.reduceLeDiff, Nat.reduceSub, ha, hb, fo0, kt3, hsp]; refine hK _ _ ?_; clear hK K
                  (repeat first | refine W_seq ?_ | refine seqQ_normal ?_ | refine W_skip ?_ | refine blkQ_normal ?_)
                  refine W_true rfl ?_
                  (repeat first | refine W_seq ?_ | refine seqQ_normal ?_ | refine W_skip ?_ | refine blkQ_normal ?_); refine W_reg (fun K hK => ?_); simp only [push_cast, Nat.reduceBEq, Nat.reduceAdd, Nat.reduceLT, Nat.reduceEqDiff, reduceIte, reduceCtorEq, Nat.reduceLeDiff, Nat.reduceSub]
                  refine ⟨_, build0, ?_⟩
                  refine v2s ?_; try simp only [push_cast, Nat.reduceBEq, Nat.reduceAdd, Nat.reduceLT, Nat.reduceEqDiff, reduceIte, reduceCtorEq, Nat.reduceLeDiff, Nat.reduceSub]
                  refine ⟨wz, hzr, ?_⟩
                  refine v2s ?_; try simp only [push_cast, Nat.reduceBEq, Nat.reduceAdd, Nat.reduceLT, Nat.reduceEqDiff, reduceIte, reduceCtorEq, Nat.reduceLeDiff, Nat.reduceSub]
                  refine hK _ _ ?_; clear hK K
                  (repeat first | refine seqQ_ret ?_ | refine seqQ_exit ?_ | refine blkQ_exit ?_ | refine blkQ_other rfl ?_ | refine blkQ_ret ?_ | refine blkQ_normal ?_ | refine W_seq ?_ | refine seqQ_normal ?_ | refine W_skip ?_ | refine W_exit ?_ | refine W_ret ?_)
                  simp only [funQ, resE, tup, lk, Nat.reduceEqDiff, reduceIte, reduceCtorEq, kt24]
                  exact ⟨_, hzb.cells rfl, (set_bad (by unfold setM; rw [if_neg hv, if_neg hq', if_neg hg', if_neg hp', if_pos rfl, if_pos (.inr (.inl (by simpa using hb)))])).symm, hzbel⟩
              · (repeat first | refine W_seq ?_ | refine seqQ_normal ?_ | refine W_skip ?_ | refine blkQ_normal ?_); refine W_reg (fun K hK => ?_); simp only [push_cast, Nat.reduceBEq, Nat.reduceAdd, Nat.reduceLT, Nat.reduceEqDiff, reduceIte, reduceCtorEq, Nat.reduceLeDiff, Nat.reduceSub, ha]; refine hK _ _ ?_; clear hK K
                (repeat first | refine W_seq ?_ | refine seqQ_normal ?_ | refine W_skip ?_ | refine blkQ_normal ?_)
                refine W_true rfl ?_
                (repeat first | refine W_seq ?_ | refine seqQ_normal ?_ | refine W_skip ?_ | refine blkQ_normal ?_); refine W_reg (fun K hK => ?_); simp only [push_cast, Nat.reduceBEq, Nat.reduceAdd, Nat.reduceLT, Nat.reduceEqDiff, reduceIte, reduceCtorEq, Nat.reduceLeDiff, Nat.reduceSub]
                refine ⟨_, build0, ?_⟩
                refine v2s ?_; try simp only [push_cast, Nat.reduceBEq, Nat.reduceAdd, Nat.reduceLT, Nat.reduceEqDiff, reduceIte, reduceCtorEq, Nat.reduceLeDiff, Nat.reduceSub]
                refine ⟨wz, hzr, ?_⟩
                refine v2s ?_; try simp only [push_cast, Nat.reduceBEq, Nat.reduceAdd, Nat.reduceLT, Nat.reduceEqDiff, reduceIte, reduceCtorEq, Nat.reduceLeDiff, Nat.reduceSub]
                refine hK _ _ ?_; clear hK K
                (repeat first | refine seqQ_ret ?_ | refine seqQ_exit ?_ | refine blkQ_exit ?_ | refine blkQ_other rfl ?_ | refine blkQ_ret ?_ | refine blkQ_normal ?_ | refine W_seq ?_ | refine seqQ_normal ?_ | refine W_skip ?_ | refine W_exit ?_ | refine W_ret ?_)
                simp only [funQ, resE, tup, lk, Nat.reduceEqDiff, reduceIte, reduceCtorEq, kt24]
                exact ⟨_, hzb.cells rfl, (set_bad (by unfold setM; rw [if_neg hv, if_neg hq', if_neg hg', if_neg hp', if_pos rfl, if_pos (.inl (by simpa using ha))])).symm, hzbel⟩
            · have hr' : ¬ word = wRoom := of_decide_eq_false hr
              (repeat first | refine W_seq ?_ | refine seqQ_normal ?_ | refine W_skip ?_ | refine blkQ_normal ?_); refine W_reg (fun K hK => ?_); simp only [push_cast, Nat.reduceBEq, Nat.reduceAdd, Nat.reduceLT, Nat.reduceEqDiff, reduceIte, reduceCtorEq, Nat.reduceLeDiff, Nat.reduceSub]
              refine ⟨_, build0, ?_⟩
              refine v2s ?_; try simp only [push_cast, Nat.reduceBEq, Nat.reduceAdd, Nat.reduceLT, Nat.reduceEqDiff, reduceIte, reduceCtorEq, Nat.reduceLeDiff, Nat.reduceSub]
              refine ⟨wz, hzr, ?_⟩
              refine v2s ?_; try simp only [push_cast, Nat.reduceBEq, Nat.reduceAdd, Nat.reduceLT, Nat.reduceEqDiff, reduceIte, reduceCtorEq, Nat.reduceLeDiff, Nat.reduceSub]
              refine hK _ _ ?_; clear hK K
              (repeat first | refine seqQ_ret ?_ | refine seqQ_exit ?_ | refine blkQ_exit ?_ | refine blkQ_other rfl ?_ | refine blkQ_ret ?_ | refine blkQ_normal ?_ | refine W_seq ?_ | refine seqQ_normal ?_ | refine W_skip ?_ | refine W_exit ?_ | refine W_ret ?_)
              simp only [funQ, resE, tup, lk, Nat.reduceEqDiff, reduceIte, reduceCtorEq, kt24]
              exact ⟨_, hzb.cells rfl, (set_bad (by unfold setM; rw [if_neg hv, if_neg hq', if_neg hg', if_neg hp', if_neg hr'])).symm, hzbel⟩
  · (repeat first | refine W_seq ?_ | refine seqQ_normal ?_ | refine W_skip ?_ | refine blkQ_normal ?_); refine W_reg (fun K hK => ?_); simp only [push_cast, Nat.reduceBEq, Nat.reduceAdd, Nat.reduceLT, Nat.reduceEqDiff, reduceIte, reduceCtorEq, Nat.reduceLeDiff, Nat.reduceSub, h0]; refine hK _ _ ?_; clear hK K
    (repeat first | refine W_seq ?_ | refine seqQ_normal ?_ | refine W_skip ?_ | refine blkQ_normal ?_)
    refine W_true rfl ?_
    (repeat first | refine W_seq ?_ | refine seqQ_normal ?_ | refine W_skip ?_ | refine blkQ_normal ?_); refine W_reg (fun K hK => ?_); simp only [push_cast, Nat.reduceBEq, Nat.reduceAdd, Nat.reduceLT, Nat.reduceEqDiff, reduceIte, reduceCtorEq, Nat.reduceLeDiff, Nat.reduceSub]
    refine ⟨_, build0, ?_⟩
    refine v2s ?_; try simp only [push_cast, Nat.reduceBEq, Nat.reduceAdd, Nat.reduceLT, Nat.reduceEqDiff, reduceIte, reduceCtorEq, Nat.reduceLeDiff, Nat.reduceSub]
    refine ⟨wz, hzr, ?_⟩
    refine v2s ?_; try simp only [push_cast, Nat.reduceBEq, Nat.reduceAdd, Nat.reduceLT, Nat.reduceEqDiff, reduceIte, reduceCtorEq, Nat.reduceLeDiff, Nat.reduceSub]
    refine hK _ _ ?_; clear hK K
    (repeat first | refine seqQ_ret ?_ | refine seqQ_exit ?_ | refine blkQ_exit ?_ | refine blkQ_other rfl ?_ | refine blkQ_ret ?_ | refine blkQ_normal ?_ | refine W_seq ?_ | refine seqQ_normal ?_ | refine W_skip ?_ | refine W_exit ?_ | refine W_ret ?_)
    simp only [funQ, resE, tup, lk, Nat.reduceEqDiff, reduceIte, reduceCtorEq, kt24]
    exact ⟨_, hzb.cells rfl, (set_bad (by unfold setM; rw [if_pos (.inl (by simpa using h0))])).symm, hzbel⟩

theorem cond_bad {b : Bool} {c c' : List Int} {word : ByteArray} {a v : Int} (h : setM c word a v = if b then some c' else none) (hb : b = false) : retS (setM c word a v) = .tuple #[.agg (vals zeros), .int .i64 1] := by rw [h, hb]; rfl
theorem cond_good {b : Bool} {c c' : List Int} {word : ByteArray} {a v : Int} (h : setM c word a v = if b then some c' else none) (hb : b = true) : retS (setM c word a v) = .tuple #[.agg (vals c'), .int .i64 0] := by rw [h, hb]; rfl
set_option maxHeartbeats 1000000 in
theorem refSet_calls (c : List Int) (hc : c.length = 17) (word : ByteArray) (a v : Int) (w : World) :
    Calls Try.prog 8 #[.agg (vals c), .string word, .int .i64 a, .int .i64 v] w (Ret fun r w' => r = retS (setM c word a v) ∧ Below w.heap.size w w') := by
  refine calls_W (args := [_, _, _, _]) Try.func8 rfl Try.ntmps8 Try.results8 (by simp) ?_
  (repeat first | refine W_seq ?_ | refine seqQ_normal ?_ | refine W_skip ?_ | refine blkQ_normal ?_); refine W_reg (fun K hK => ?_); simp only [push_cast, Nat.reduceBEq, Nat.reduceAdd, Nat.reduceLT, Nat.reduceEqDiff, reduceIte, reduceCtorEq, Nat.reduceLeDiff, Nat.reduceSub, zt24, Value.cells]; refine hK _ _ ?_; clear hK K
  have hs := Blk.new w (vals c) 24
  have hbel := (Below.refl w.heap.size w).alloc (Nat.le_refl _) (.cells (vals c) 24)
  generalize hw1 : w.alloc (.cells (vals c) 24) = w1 at *
  clear hw1
  have hz := Blk.new w1 (vals zeros) 24
  have hne : w.heap.size ≠ w1.heap.size := fun e => by have := hs.lt; omega
  have hlt : w.heap.size ≤ w1.heap.size := Nat.le_of_lt hs.lt
  replace hbel := hbel.alloc hlt (.cells (vals zeros) 24)
  replace hs := hs.alloc (.cells (vals zeros) 24)
  generalize hw2 : w1.alloc (.cells (vals zeros) 24) = w2 at *
  clear hw2
  generalize hS : w.heap.size = S at *
  generalize hD : w1.heap.size = D at *
  have hsp : w2.cell? ⟨S, 0, none⟩ = some (.int .i64 (c.getD 0 0)) := by rw [hs.cell]; exact vals_get (by omega)
  refine seqQ_normal ?_
  refine W_cut (ι := Bool) (fun g => [(1, .string word), (2, .int .i64 a), (3, .int .i64 v), (4, .pointer (some ⟨S, 0, none⟩)), (8, .pointer (some ⟨D, 0, none⟩)), (10, .bool g)]) (fun g w' => w' = w2 ∧ (g = true ↔ ¬ (v < 0 ∨ 1099511627776 < v))) [1, 2, 3, 4, 8, 10] ?_ ?_
  · cases h0 : decide (0 ≤ v)
    · (repeat first | refine W_seq ?_ | refine seqQ_normal ?_ | refine W_skip ?_ | refine blkQ_normal ?_); refine W_reg (fun K hK => ?_); simp only [push_cast, Nat.reduceBEq, Nat.reduceAdd, Nat.reduceLT, Nat.reduceEqDiff, reduceIte, reduceCtorEq, Nat.reduceLeDiff, Nat.reduceSub, h0]
      refine hK _ _ ?_; clear hK K
      refine ⟨false, rfl, rfl, ?_⟩
      simp only [decide_eq_false_iff_not] at h0
      simp; omega
    · (repeat first | refine W_seq ?_ | refine seqQ_normal ?_ | refine W_skip ?_ | refine blkQ_normal ?_); refine W_reg (fun K hK => ?_); simp only [push_cast, Nat.reduceBEq, Nat.reduceAdd, Nat.reduceLT, Nat.reduceEqDiff, reduceIte, reduceCtorEq, Nat.reduceLeDiff, Nat.reduceSub, h0]
      refine hK _ _ ?_; clear hK K
      refine ⟨decide (v ≤ 1099511627776), rfl, rfl, ?_⟩
      simp only [decide_eq_true_eq] at h0 ⊢
      omega
  rintro g w' ⟨rfl, hg⟩
  (repeat first | refine W_seq ?_ | refine seqQ_normal ?_ | refine W_skip ?_ | refine blkQ_normal ?_); refine W_reg (fun K hK => ?_); simp only [push_cast, Nat.reduceBEq, Nat.reduceAdd, Nat.reduceLT, Nat.reduceEqDiff, reduceIte, reduceCtorEq, Nat.reduceLeDiff, Nat.reduceSub, fo0, kt3, hsp]; refine hK _ _ ?_; clear hK K
  refine seqQ_normal ?_
  refine W_cut (ι := Int) (fun m => [(1, .string word), (2, .int .i64 a), (3, .int .i64 v), (4, .pointer (some ⟨S, 0, none⟩)), (8, .pointer (some ⟨D, 0, none⟩)), (10, .bool g), (11, .int .i64 m)]) (fun m w'' => w'' = w' ∧ m ≤ 6 ∧ (m = c.getD 0 0 ∨ m = 6 ∧ 6 < c.getD 0 0)) [1, 2, 3, 4, 8, 10, 11] ?_ ?_
  · (repeat first | refine W_seq ?_ | refine seqQ_normal ?_ | refine W_skip ?_ | refine blkQ_normal ?_); refine W_reg (fun K hK => ?_); simp only [push_cast, Nat.reduceBEq, Nat.reduceAdd, Nat.reduceLT, Nat.reduceEqDiff, reduceIte, reduceCtorEq, Nat.reduceLeDiff, Nat.reduceSub]; refine hK _ _ ?_; clear hK K
    (repeat first | refine W_seq ?_ | refine seqQ_normal ?_ | refine W_skip ?_ | refine blkQ_normal ?_)
    refine W_cond rfl (fun h => ?_) (fun h => ?_)
    · (repeat first | refine W_seq ?_ | refine seqQ_normal ?_ | refine W_skip ?_ | refine blkQ_normal ?_); refine W_reg (fun K hK => ?_); simp only [push_cast, Nat.reduceBEq, Nat.reduceAdd, Nat.reduceLT, Nat.reduceEqDiff, reduceIte, reduceCtorEq, Nat.reduceLeDiff, Nat.reduceSub]; refine hK _ _ ?_; clear hK K
      exact ⟨6, rfl, rfl, by omega, .inr ⟨rfl, of_decide_eq_true h⟩⟩
    · (repeat first | refine seqQ_ret ?_ | refine seqQ_exit ?_ | refine blkQ_exit ?_ | refine blkQ_other rfl ?_ | refine blkQ_ret ?_ | refine blkQ_normal ?_ | refine W_seq ?_ | refine seqQ_normal ?_ | refine W_skip ?_ | refine W_exit ?_ | refine W_ret ?_)
      have h := of_decide_eq_false h
      exact ⟨_, rfl, rfl, by omega, .inl rfl⟩
  rintro m w'' ⟨rfl, hm6, hm⟩
  refine W_cut (ι := Bool × List Int) (fun x => [(4, .pointer (some ⟨S, 0, none⟩)), (8, .pointer (some ⟨D, 0, none⟩)), (10, .bool x.1)])
    (fun x w' => Blk w' S (vals x.2) 24 ∧ x.2.length = 17 ∧ Blk w' D (vals zeros) 24 ∧ Below S w w' ∧ setM c word a v = if x.1 then some x.2 else none) [4, 8, 10] ?_ ?_
  · have fin : ∀ (o : Option (List Int)) (c' : List Int), (¬ (v < 0 ∨ 1099511627776 < v) → setM c word a v = some c') → setM c word a v = if g then some c' else none := by
      intro o c' h
      cases g with
      | true => exact h (hg.1 rfl)
      | false =>
        have : v < 0 ∨ 1099511627776 < v := Classical.byContradiction fun h => by have := hg.2 h; cases this
        unfold setM; rw [if_pos this]; rfl
    have bad : (¬ (v < 0 ∨ 1099511627776 < v) → setM c word a v = none) → setM c word a v = if (false, c).1 then some (false, c).2 else none := by
      intro h
      by_cases hv : v < 0 ∨ 1099511627776 < v
      · unfold setM; rw [if_pos hv]; rfl
      · exact h hv
    cases hq : decide (word = wQuota)
    · have hq' : ¬ word = wQuota := of_decide_eq_false hq
      replace hq : decide (word = { data := #[113, 117, 111, 116, 97] }) = false := hq
      (repeat first | refine W_seq ?_ | refine seqQ_normal ?_ | refine W_skip ?_ | refine blkQ_normal ?_); refine W_reg (fun K hK => ?_); simp only [push_cast, Nat.reduceBEq, Nat.reduceAdd, Nat.reduceLT, Nat.reduceEqDiff, reduceIte, reduceCtorEq, Nat.reduceLeDiff, Nat.reduceSub, hq]; refine hK _ _ ?_; clear hK K
      (repeat first | refine W_seq ?_ | refine seqQ_normal ?_ | refine W_skip ?_ | refine blkQ_normal ?_)
      refine W_false rfl ?_
      cases hw : decide (word = wAge)
      · have hw' : ¬ word = wAge := of_decide_eq_false hw
        replace hw : decide (word = { data := #[97, 103, 101] }) = false := hw
        (repeat first | refine W_seq ?_ | refine seqQ_normal ?_ | refine W_skip ?_ | refine blkQ_normal ?_); refine W_reg (fun K hK => ?_); simp only [push_cast, Nat.reduceBEq, Nat.reduceAdd, Nat.reduceLT, Nat.reduceEqDiff, reduceIte, reduceCtorEq, Nat.reduceLeDiff, Nat.reduceSub, hw]; refine hK _ _ ?_; clear hK K
        (repeat first | refine W_seq ?_ | refine seqQ_normal ?_ | refine W_skip ?_ | refine blkQ_normal ?_)
        refine W_false rfl ?_
        cases hp : decide (word = wPeriod)
        · have hp' : ¬ word = wPeriod := of_decide_eq_false hp
          replace hp : decide (word = { data := #[112, 101, 114, 105, 111, 100] }) = false := hp
          (repeat first | refine W_seq ?_ | refine seqQ_normal ?_ | refine W_skip ?_ | refine blkQ_normal ?_); refine W_reg (fun K hK => ?_); simp only [push_cast, Nat.reduceBEq, Nat.reduceAdd, Nat.reduceLT, Nat.reduceEqDiff, reduceIte, reduceCtorEq, Nat.reduceLeDiff, Nat.reduceSub, hp]; refine hK _ _ ?_; clear hK K
          (repeat first | refine W_seq ?_ | refine seqQ_normal ?_ | refine W_skip ?_ | refine blkQ_normal ?_)
          refine W_false rfl ?_
          cases hr : decide (word = wRoom)
          · have hr' : ¬ word = wRoom := of_decide_eq_false hr
            replace hr : decide (word = { data := #[114, 111, 111, 109] }) = false := hr
            (repeat first | refine W_seq ?_ | refine seqQ_normal ?_ | refine W_skip ?_ | refine blkQ_normal ?_); refine W_reg (fun K hK => ?_); simp only [push_cast, Nat.reduceBEq, Nat.reduceAdd, Nat.reduceLT, Nat.reduceEqDiff, reduceIte, reduceCtorEq, Nat.reduceLeDiff, Nat.reduceSub, hr]; refine hK _ _ ?_; clear hK K
            (repeat first | refine W_seq ?_ | refine seqQ_normal ?_ | refine W_skip ?_ | refine blkQ_normal ?_)
            refine W_false rfl ?_
            (repeat first | refine W_seq ?_ | refine seqQ_normal ?_ | refine W_skip ?_ | refine blkQ_normal ?_); refine W_reg (fun K hK => ?_); simp only [push_cast, Nat.reduceBEq, Nat.reduceAdd, Nat.reduceLT, Nat.reduceEqDiff, reduceIte, reduceCtorEq, Nat.reduceLeDiff, Nat.reduceSub]; refine hK _ _ ?_; clear hK K
            refine ⟨(false, c), rfl, hs, hc, hz, hbel, ?_⟩
            refine bad fun hv => ?_
            unfold setM
            rw [if_neg hv, if_neg hq', if_neg hw', if_neg hp', if_neg hr']
          · have hr' : word = wRoom := of_decide_eq_true hr
            replace hr : decide (word = { data := #[114, 111, 111, 109] }) = true := hr
            cases ha : decide (0 ≤ a)
            · (repeat first | refine W_seq ?_ | refine seqQ_normal ?_ | refine W_skip ?_ | refine blkQ_normal ?_); refine W_reg (fun K hK => ?_); simp only [push_cast, Nat.reduceBEq, Nat.reduceAdd, Nat.reduceLT, Nat.reduceEqDiff, reduceIte, reduceCtorEq, Nat.reduceLeDiff, Nat.reduceSub, hr, ha]; refine hK _ _ ?_; clear hK K
              (repeat first | refine W_seq ?_ | refine seqQ_normal ?_ | refine W_skip ?_ | refine blkQ_normal ?_)
              refine W_false rfl ?_
              (repeat first | refine W_seq ?_ | refine seqQ_normal ?_ | refine W_skip ?_ | refine blkQ_normal ?_); refine W_reg (fun K hK => ?_); simp only [push_cast, Nat.reduceBEq, Nat.reduceAdd, Nat.reduceLT, Nat.reduceEqDiff, reduceIte, reduceCtorEq, Nat.reduceLeDiff, Nat.reduceSub]; refine hK _ _ ?_; clear hK K
              refine ⟨(false, c), rfl, hs, hc, hz, hbel, ?_⟩
              have ha := of_decide_eq_false ha
              refine bad fun hv => ?_
              unfold setM
              rw [if_neg hv, if_neg hq', if_neg hw', if_neg hp', if_pos hr', if_pos (.inl (by omega))]
            · (repeat first | refine W_seq ?_ | refine seqQ_normal ?_ | refine W_skip ?_ | refine blkQ_normal ?_); refine W_reg (fun K hK => ?_); simp only [push_cast, Nat.reduceBEq, Nat.reduceAdd, Nat.reduceLT, Nat.reduceEqDiff, reduceIte, reduceCtorEq, Nat.reduceLeDiff, Nat.reduceSub, hr, ha]; refine hK _ _ ?_; clear hK K
              (repeat first | refine W_seq ?_ | refine seqQ_normal ?_ | refine W_skip ?_ | refine blkQ_normal ?_)
              refine W_cond rfl (fun hb => ?_) (fun hb => ?_)
              · have ha := of_decide_eq_true ha
                have hb := of_decide_eq_true hb
                (repeat first | refine W_seq ?_ | refine seqQ_normal ?_ | refine W_skip ?_ | refine blkQ_normal ?_); refine W_reg (fun K hK => ?_); simp only [push_cast, Nat.reduceBEq, Nat.reduceAdd, Nat.reduceLT, Nat.reduceEqDiff, reduceIte, reduceCtorEq, Nat.reduceLeDiff, Nat.reduceSub, fo4, kt3, ua22]
                obtain ⟨w3, hr3, hb3, ho3⟩ := store1 (P := Try.prog) (ty := 3) (i := 10 + a.toNat) (v := .int .i64 v) hs kt3 rfl (by rw [vals_size]; omega)
                rw [vals_set] at hb3
                refine ⟨by omega, w3, hr3, ?_⟩
                refine v2s ?_; try simp only [push_cast, Nat.reduceBEq, Nat.reduceAdd, Nat.reduceLT, Nat.reduceEqDiff, reduceIte, reduceCtorEq, Nat.reduceLeDiff, Nat.reduceSub]
                refine hK _ _ ?_; clear hK K
                refine ⟨(g, c.set (10 + a.toNat) v), rfl, hb3, by rw [List.length_set]; exact hc, hz.only ho3 (Ne.symm hne), ho3.below hbel (Nat.le_refl _), ?_⟩
                refine fin none _ fun hv => ?_
                unfold setM
                rw [if_neg hv, if_neg hq', if_neg hw', if_neg hp', if_pos hr', if_neg (by omega)]
              · (repeat first | refine W_seq ?_ | refine seqQ_normal ?_ | refine W_skip ?_ | refine blkQ_normal ?_); refine W_reg (fun K hK => ?_); simp only [push_cast, Nat.reduceBEq, Nat.reduceAdd, Nat.reduceLT, Nat.reduceEqDiff, reduceIte, reduceCtorEq, Nat.reduceLeDiff, Nat.reduceSub]; refine hK _ _ ?_; clear hK K
                refine ⟨(false, c), rfl, hs, hc, hz, hbel, ?_⟩
                have ha := of_decide_eq_true ha
                have hb := of_decide_eq_false hb
                refine bad fun hv => ?_
                unfold setM
                rw [if_neg hv, if_neg hq', if_neg hw', if_neg hp', if_pos hr', if_pos (by omega)]
        · have hp' : word = wPeriod := of_decide_eq_true hp
          replace hp : decide (word = { data := #[112, 101, 114, 105, 111, 100] }) = true := hp
          have hroom : decide (word = { data := #[114, 111, 111, 109] }) = false := by rw [hp']; decide
          cases ha : decide (1 ≤ a)
          · (repeat first | refine W_seq ?_ | refine seqQ_normal ?_ | refine W_skip ?_ | refine blkQ_normal ?_); refine W_reg (fun K hK => ?_); simp only [push_cast, Nat.reduceBEq, Nat.reduceAdd, Nat.reduceLT, Nat.reduceEqDiff, reduceIte, reduceCtorEq, Nat.reduceLeDiff, Nat.reduceSub, hp, ha]; refine hK _ _ ?_; clear hK K
            (repeat first | refine W_seq ?_ | refine seqQ_normal ?_ | refine W_skip ?_ | refine blkQ_normal ?_)
            refine W_false rfl ?_
            (repeat first | refine W_seq ?_ | refine seqQ_normal ?_ | refine W_skip ?_ | refine blkQ_normal ?_); refine W_reg (fun K hK => ?_); simp only [push_cast, Nat.reduceBEq, Nat.reduceAdd, Nat.reduceLT, Nat.reduceEqDiff, reduceIte, reduceCtorEq, Nat.reduceLeDiff, Nat.reduceSub, hroom]; refine hK _ _ ?_; clear hK K
            (repeat first | refine W_seq ?_ | refine seqQ_normal ?_ | refine W_skip ?_ | refine blkQ_normal ?_)
            refine W_false rfl ?_
            (repeat first | refine W_seq ?_ | refine seqQ_normal ?_ | refine W_skip ?_ | refine blkQ_normal ?_); refine W_reg (fun K hK => ?_); simp only [push_cast, Nat.reduceBEq, Nat.reduceAdd, Nat.reduceLT, Nat.reduceEqDiff, reduceIte, reduceCtorEq, Nat.reduceLeDiff, Nat.reduceSub]; refine hK _ _ ?_; clear hK K
            refine ⟨(false, c), rfl, hs, hc, hz, hbel, ?_⟩
            have ha := of_decide_eq_false ha
            refine bad fun hv => ?_
            unfold setM
            rw [if_neg hv, if_neg hq', if_neg hw', if_pos hp', if_pos (.inl (by omega))]
          · (repeat first | refine W_seq ?_ | refine seqQ_normal ?_ | refine W_skip ?_ | refine blkQ_normal ?_); refine W_reg (fun K hK => ?_); simp only [push_cast, Nat.reduceBEq, Nat.reduceAdd, Nat.reduceLT, Nat.reduceEqDiff, reduceIte, reduceCtorEq, Nat.reduceLeDiff, Nat.reduceSub, hp, ha]; refine hK _ _ ?_; clear hK K
            (repeat first | refine W_seq ?_ | refine seqQ_normal ?_ | refine W_skip ?_ | refine blkQ_normal ?_)
            refine W_cond rfl (fun hb => ?_) (fun hb => ?_)
            · have ha := of_decide_eq_true ha
              have hb := of_decide_eq_true hb
              (repeat first | refine W_seq ?_ | refine seqQ_normal ?_ | refine W_skip ?_ | refine blkQ_normal ?_); refine W_reg (fun K hK => ?_); simp only [push_cast, Nat.reduceBEq, Nat.reduceAdd, Nat.reduceLT, Nat.reduceEqDiff, reduceIte, reduceCtorEq, Nat.reduceLeDiff, Nat.reduceSub, fo3, kt3, ua22]
              obtain ⟨w3, hr3, hb3, ho3⟩ := store1 (P := Try.prog) (ty := 3) (i := 3 + a.toNat) (v := .int .i64 v) hs kt3 rfl (by rw [vals_size]; omega)
              rw [vals_set] at hb3
              refine ⟨by omega, w3, hr3, ?_⟩
              refine v2s ?_; try simp only [push_cast, Nat.reduceBEq, Nat.reduceAdd, Nat.reduceLT, Nat.reduceEqDiff, reduceIte, reduceCtorEq, Nat.reduceLeDiff, Nat.reduceSub]
              refine hK _ _ ?_; clear hK K
              refine ⟨(g, c.set (3 + a.toNat) v), rfl, hb3, by rw [List.length_set]; exact hc, hz.only ho3 (Ne.symm hne), ho3.below hbel (Nat.le_refl _), ?_⟩
              refine fin none _ fun hv => ?_
              unfold setM
              rw [if_neg hv, if_neg hq', if_neg hw', if_pos hp', if_neg (by omega)]
            · (repeat first | refine W_seq ?_ | refine seqQ_normal ?_ | refine W_skip ?_ | refine blkQ_normal ?_); refine W_reg (fun K hK => ?_); simp only [push_cast, Nat.reduceBEq, Nat.reduceAdd, Nat.reduceLT, Nat.reduceEqDiff, reduceIte, reduceCtorEq, Nat.reduceLeDiff, Nat.reduceSub, hroom]; refine hK _ _ ?_; clear hK K
              (repeat first | refine W_seq ?_ | refine seqQ_normal ?_ | refine W_skip ?_ | refine blkQ_normal ?_)
              refine W_false rfl ?_
              (repeat first | refine W_seq ?_ | refine seqQ_normal ?_ | refine W_skip ?_ | refine blkQ_normal ?_); refine W_reg (fun K hK => ?_); simp only [push_cast, Nat.reduceBEq, Nat.reduceAdd, Nat.reduceLT, Nat.reduceEqDiff, reduceIte, reduceCtorEq, Nat.reduceLeDiff, Nat.reduceSub]; refine hK _ _ ?_; clear hK K
              refine ⟨(false, c), rfl, hs, hc, hz, hbel, ?_⟩
              have ha := of_decide_eq_true ha
              have hb := of_decide_eq_false hb
              refine bad fun hv => ?_
              unfold setM
              rw [if_neg hv, if_neg hq', if_neg hw', if_pos hp', if_pos (by omega)]
      · have hw' : word = wAge := of_decide_eq_true hw
        replace hw : decide (word = { data := #[97, 103, 101] }) = true := hw
        have hper : decide (word = { data := #[112, 101, 114, 105, 111, 100] }) = false := by rw [hw']; decide
        have hroom : decide (word = { data := #[114, 111, 111, 109] }) = false := by rw [hw']; decide
        (repeat first | refine W_seq ?_ | refine seqQ_normal ?_ | refine W_skip ?_ | refine blkQ_normal ?_); refine W_reg (fun K hK => ?_); simp only [push_cast, Nat.reduceBEq, Nat.reduceAdd, Nat.reduceLT, Nat.reduceEqDiff, reduceIte, reduceCtorEq, Nat.reduceLeDiff, Nat.reduceSub, hw]; refine hK _ _ ?_; clear hK K
        (repeat first | refine W_seq ?_ | refine seqQ_normal ?_ | refine W_skip ?_ | refine blkQ_normal ?_)
        refine W_cond rfl (fun ha => ?_) (fun ha => ?_)
        · (repeat first | refine W_seq ?_ | refine seqQ_normal ?_ | refine W_skip ?_ | refine blkQ_normal ?_); refine W_reg (fun K hK => ?_); simp only [push_cast, Nat.reduceBEq, Nat.reduceAdd, Nat.reduceLT, Nat.reduceEqDiff, reduceIte, reduceCtorEq, Nat.reduceLeDiff, Nat.reduceSub, fo2, kt3, ua22]
          obtain ⟨w3, hr3, hb3, ho3⟩ := store1 (P := Try.prog) (ty := 3) (i := 2) (v := .int .i64 v) hs kt3 rfl (by rw [vals_size]; omega)
          rw [vals_set] at hb3
          refine ⟨w3, hr3, ?_⟩
          refine v2s ?_; try simp only [push_cast, Nat.reduceBEq, Nat.reduceAdd, Nat.reduceLT, Nat.reduceEqDiff, reduceIte, reduceCtorEq, Nat.reduceLeDiff, Nat.reduceSub]
          refine hK _ _ ?_; clear hK K
          refine ⟨(g, c.set (2) v), rfl, hb3, by rw [List.length_set]; exact hc, hz.only ho3 (Ne.symm hne), ho3.below hbel (Nat.le_refl _), ?_⟩
          refine fin none _ fun hv => ?_
          unfold setM
          rw [if_neg hv, if_neg hq', if_pos hw', if_pos (of_decide_eq_true ha)]
        · (repeat first | refine W_seq ?_ | refine seqQ_normal ?_ | refine W_skip ?_ | refine blkQ_normal ?_); refine W_reg (fun K hK => ?_); simp only [push_cast, Nat.reduceBEq, Nat.reduceAdd, Nat.reduceLT, Nat.reduceEqDiff, reduceIte, reduceCtorEq, Nat.reduceLeDiff, Nat.reduceSub, hper]; refine hK _ _ ?_; clear hK K
          (repeat first | refine W_seq ?_ | refine seqQ_normal ?_ | refine W_skip ?_ | refine blkQ_normal ?_)
          refine W_false rfl ?_
          (repeat first | refine W_seq ?_ | refine seqQ_normal ?_ | refine W_skip ?_ | refine blkQ_normal ?_); refine W_reg (fun K hK => ?_); simp only [push_cast, Nat.reduceBEq, Nat.reduceAdd, Nat.reduceLT, Nat.reduceEqDiff, reduceIte, reduceCtorEq, Nat.reduceLeDiff, Nat.reduceSub, hroom]; refine hK _ _ ?_; clear hK K
          (repeat first | refine W_seq ?_ | refine seqQ_normal ?_ | refine W_skip ?_ | refine blkQ_normal ?_)
          refine W_false rfl ?_
          (repeat first | refine W_seq ?_ | refine seqQ_normal ?_ | refine W_skip ?_ | refine blkQ_normal ?_); refine W_reg (fun K hK => ?_); simp only [push_cast, Nat.reduceBEq, Nat.reduceAdd, Nat.reduceLT, Nat.reduceEqDiff, reduceIte, reduceCtorEq, Nat.reduceLeDiff, Nat.reduceSub]; refine hK _ _ ?_; clear hK K
          refine ⟨(false, c), rfl, hs, hc, hz, hbel, ?_⟩
          refine bad fun hv => ?_
          unfold setM
          rw [if_neg hv, if_neg hq', if_pos hw', if_neg (of_decide_eq_false ha)]
    · have hq' : word = wQuota := of_decide_eq_true hq
      replace hq : decide (word = { data := #[113, 117, 111, 116, 97] }) = true := hq
      have hage : decide (word = { data := #[97, 103, 101] }) = false := by rw [hq']; decide
      have hper : decide (word = { data := #[112, 101, 114, 105, 111, 100] }) = false := by rw [hq']; decide
      have hroom : decide (word = { data := #[114, 111, 111, 109] }) = false := by rw [hq']; decide
      (repeat first | refine W_seq ?_ | refine seqQ_normal ?_ | refine W_skip ?_ | refine blkQ_normal ?_); refine W_reg (fun K hK => ?_); simp only [push_cast, Nat.reduceBEq, Nat.reduceAdd, Nat.reduceLT, Nat.reduceEqDiff, reduceIte, reduceCtorEq, Nat.reduceLeDiff, Nat.reduceSub, hq]; refine hK _ _ ?_; clear hK K
      (repeat first | refine W_seq ?_ | refine seqQ_normal ?_ | refine W_skip ?_ | refine blkQ_normal ?_)
      refine W_cond rfl (fun ha => ?_) (fun ha => ?_)
      · (repeat first | refine W_seq ?_ | refine seqQ_normal ?_ | refine W_skip ?_ | refine blkQ_normal ?_); refine W_reg (fun K hK => ?_); simp only [push_cast, Nat.reduceBEq, Nat.reduceAdd, Nat.reduceLT, Nat.reduceEqDiff, reduceIte, reduceCtorEq, Nat.reduceLeDiff, Nat.reduceSub, fo1, kt3, ua22]
        obtain ⟨w3, hr3, hb3, ho3⟩ := store1 (P := Try.prog) (ty := 3) (i := 1) (v := .int .i64 v) hs kt3 rfl (by rw [vals_size]; omega)
        rw [vals_set] at hb3
        refine ⟨w3, hr3, ?_⟩
        refine v2s ?_; try simp only [push_cast, Nat.reduceBEq, Nat.reduceAdd, Nat.reduceLT, Nat.reduceEqDiff, reduceIte, reduceCtorEq, Nat.reduceLeDiff, Nat.reduceSub]
        refine hK _ _ ?_; clear hK K
        refine ⟨(g, c.set (1) v), rfl, hb3, by rw [List.length_set]; exact hc, hz.only ho3 (Ne.symm hne), ho3.below hbel (Nat.le_refl _), ?_⟩
        refine fin none _ fun hv => ?_
        unfold setM
        rw [if_neg hv, if_pos hq', if_pos (of_decide_eq_true ha)]
      · (repeat first | refine W_seq ?_ | refine seqQ_normal ?_ | refine W_skip ?_ | refine blkQ_normal ?_); refine W_reg (fun K hK => ?_); simp only [push_cast, Nat.reduceBEq, Nat.reduceAdd, Nat.reduceLT, Nat.reduceEqDiff, reduceIte, reduceCtorEq, Nat.reduceLeDiff, Nat.reduceSub, hage]; refine hK _ _ ?_; clear hK K
        (repeat first | refine W_seq ?_ | refine seqQ_normal ?_ | refine W_skip ?_ | refine blkQ_normal ?_)
        refine W_false rfl ?_
        (repeat first | refine W_seq ?_ | refine seqQ_normal ?_ | refine W_skip ?_ | refine blkQ_normal ?_); refine W_reg (fun K hK => ?_); simp only [push_cast, Nat.reduceBEq, Nat.reduceAdd, Nat.reduceLT, Nat.reduceEqDiff, reduceIte, reduceCtorEq, Nat.reduceLeDiff, Nat.reduceSub, hper]; refine hK _ _ ?_; clear hK K
        (repeat first | refine W_seq ?_ | refine seqQ_normal ?_ | refine W_skip ?_ | refine blkQ_normal ?_)
        refine W_false rfl ?_
        (repeat first | refine W_seq ?_ | refine seqQ_normal ?_ | refine W_skip ?_ | refine blkQ_normal ?_); refine W_reg (fun K hK => ?_); simp only [push_cast, Nat.reduceBEq, Nat.reduceAdd, Nat.reduceLT, Nat.reduceEqDiff, reduceIte, reduceCtorEq, Nat.reduceLeDiff, Nat.reduceSub, hroom]; refine hK _ _ ?_; clear hK K
        (repeat first | refine W_seq ?_ | refine seqQ_normal ?_ | refine W_skip ?_ | refine blkQ_normal ?_)
        refine W_false rfl ?_
        (repeat first | refine W_seq ?_ | refine seqQ_normal ?_ | refine W_skip ?_ | refine blkQ_normal ?_); refine W_reg (fun K hK => ?_); simp only [push_cast, Nat.reduceBEq, Nat.reduceAdd, Nat.reduceLT, Nat.reduceEqDiff, reduceIte, reduceCtorEq, Nat.reduceLeDiff, Nat.reduceSub]; refine hK _ _ ?_; clear hK K
        refine ⟨(false, c), rfl, hs, hc, hz, hbel, ?_⟩
        refine bad fun hv => ?_
        unfold setM
        rw [if_neg hv, if_pos hq', if_neg (of_decide_eq_false ha)]
  rintro ⟨b, c'⟩ w3 ⟨hb3, hc3, hz3, hbel3, hm3⟩
  (repeat first | refine W_seq ?_ | refine seqQ_normal ?_ | refine W_skip ?_ | refine blkQ_normal ?_); refine W_reg (fun K hK => ?_); simp only [push_cast, Nat.reduceBEq, Nat.reduceAdd, Nat.reduceLT, Nat.reduceEqDiff, reduceIte, reduceCtorEq, Nat.reduceLeDiff, Nat.reduceSub]; refine hK _ _ ?_; clear hK K
  (repeat first | refine W_seq ?_ | refine seqQ_normal ?_ | refine W_skip ?_ | refine blkQ_normal ?_)
  refine W_cond rfl (fun h => ?_) (fun h => ?_)
  · (repeat first | refine W_seq ?_ | refine seqQ_normal ?_ | refine W_skip ?_ | refine blkQ_normal ?_); refine W_reg (fun K hK => ?_); simp only [push_cast, Nat.reduceBEq, Nat.reduceAdd, Nat.reduceLT, Nat.reduceEqDiff, reduceIte, reduceCtorEq, Nat.reduceLeDiff, Nat.reduceSub]
    refine ⟨_, build0, ?_⟩
    refine v2s ?_; try simp only [push_cast, Nat.reduceBEq, Nat.reduceAdd, Nat.reduceLT, Nat.reduceEqDiff, reduceIte, reduceCtorEq, Nat.reduceLeDiff, Nat.reduceSub]
    obtain ⟨w4, hr, hb4, ho⟩ := storeAll (P := Try.prog) (ty := 24) hz3 (by rw [kt24]; rfl) (vals_one zeros) rfl
    refine ⟨w4, hr, ?_⟩
    refine v2s ?_; try simp only [push_cast, Nat.reduceBEq, Nat.reduceAdd, Nat.reduceLT, Nat.reduceEqDiff, reduceIte, reduceCtorEq, Nat.reduceLeDiff, Nat.reduceSub]
    refine hK _ _ ?_; clear hK K
    (repeat first | refine seqQ_ret ?_ | refine seqQ_exit ?_ | refine blkQ_exit ?_ | refine blkQ_other rfl ?_ | refine blkQ_ret ?_ | refine blkQ_normal ?_ | refine W_seq ?_ | refine seqQ_normal ?_ | refine W_skip ?_ | refine W_exit ?_ | refine W_ret ?_)
    simp only [funQ, resE, tup, lk, Nat.reduceEqDiff, reduceIte, reduceCtorEq, kt24]
    exact ⟨_, hb4.cells rfl, (cond_bad hm3 (by simpa using h)).symm, ho.below hbel3 hlt⟩
  · (repeat first | refine W_seq ?_ | refine seqQ_normal ?_ | refine W_skip ?_ | refine blkQ_normal ?_)
    (repeat first | refine W_seq ?_ | refine seqQ_normal ?_ | refine W_skip ?_ | refine blkQ_normal ?_); refine W_reg (fun K hK => ?_); simp only [push_cast, Nat.reduceBEq, Nat.reduceAdd, Nat.reduceLT, Nat.reduceEqDiff, reduceIte, reduceCtorEq, Nat.reduceLeDiff, Nat.reduceSub, kt24]
    refine ⟨_, hb3.cells (by rw [vals_size, hc3]), ?_⟩
    refine v2s ?_; try simp only [push_cast, Nat.reduceBEq, Nat.reduceAdd, Nat.reduceLT, Nat.reduceEqDiff, reduceIte, reduceCtorEq, Nat.reduceLeDiff, Nat.reduceSub, kt24]
    obtain ⟨w4, hr, hb4, ho⟩ := storeAll (P := Try.prog) (ty := 24) hz3 (by rw [kt24, vals_size, hc3]) (vals_one c') (by rw [vals_size, vals_size, hc3]; rfl)
    refine ⟨w4, hr, ?_⟩
    refine v2s ?_; try simp only [push_cast, Nat.reduceBEq, Nat.reduceAdd, Nat.reduceLT, Nat.reduceEqDiff, reduceIte, reduceCtorEq, Nat.reduceLeDiff, Nat.reduceSub]
    refine hK _ _ ?_; clear hK K
    (repeat first | refine seqQ_ret ?_ | refine seqQ_exit ?_ | refine blkQ_exit ?_ | refine blkQ_other rfl ?_ | refine blkQ_ret ?_ | refine blkQ_normal ?_ | refine W_seq ?_ | refine seqQ_normal ?_ | refine W_skip ?_ | refine W_exit ?_ | refine W_ret ?_)
    simp only [funQ, resE, tup, lk, Nat.reduceEqDiff, reduceIte, reduceCtorEq, kt24]
    exact ⟨_, hb4.cells (by rw [vals_size, hc3]), (cond_good hm3 (by simpa using h)).symm, ho.below hbel3 hlt⟩

theorem st24 : Try.prog.stoodInHeld 24 = false := by kernel_rfl
theorem i3 : (sizeOf 3).run Try.prog = fun w => .ok 1 w := by funext w; kernel_rfl
theorem i22 : (sizeOf 22).run Try.prog = fun w => .ok 7 w := by funext w; kernel_rfl
theorem kt22 : kindT Try.prog 22 = some (some 7) := by kernel_rfl
theorem eqInt (d : Nat) (x : Int) (w : World) : (Op.equalIn (d + 1) 3 (.int .i64 x) (.int .i64 x)).run Try.prog w = .ok true w := by
  simp [Op.equalIn, run_underlying Try.underlying3]
theorem eqArr (d : Nat) (a0 a1 a2 a3 a4 a5 a6 : Int) (w : World) : (Op.equalIn (d + 2) 22 (.agg #[.int .i64 a0, .int .i64 a1, .int .i64 a2, .int .i64 a3, .int .i64 a4, .int .i64 a5, .int .i64 a6]) (.agg #[.int .i64 a0, .int .i64 a1, .int .i64 a2, .int .i64 a3, .int .i64 a4, .int .i64 a5, .int .i64 a6])).run Try.prog w = .ok true w := by
  unfold Op.equalIn
  simp [run_underlying Try.underlying22, i3, part, run_isAgg_scalar kt3, eqInt, List.range', Sem.run_bind]
theorem eqRefl24 (c : List Int) (h : c.length = 17) : EqR Try.prog 24 (vals c) (vals c) true := by
  refine ⟨by kernel_rfl, fun w => ?_⟩
  match c, h with
  | [c0, c1, c2, c3, c4, c5, c6, c7, c8, c9, c10, c11, c12, c13, c14, c15, c16], _ =>
    unfold Op.equal Op.maxDepth Op.equalIn
    simp [run_underlying Try.underlying24, st24, i22, part, run_isAgg_scalar kt3, run_isAgg_agg kt22, eqInt, eqArr, vals, Sem.run_bind]
end Go.Proofs.Ytmllbocjcllmpaa
