/-
  path.Name, walked.
-/
import Derived.Test.YtojolcpblacjjaaDoorTrF
import Derived.Laws.RangeAny
set_option linter.unusedSimpArgs false
set_option linter.unusedVariables false
set_option maxRecDepth 20000
namespace Go.Tr
open Go
theorem okC_nat (c : UInt8) : okC c = (decide (97 ≤ c.toNat ∧ c.toNat ≤ 122) || decide (48 ≤ c.toNat ∧ c.toNat ≤ 57) || decide (c.toNat = 95)) := by
 have e : ∀ a b : UInt8, decide (a ≤ b) = decide (a.toNat ≤ b.toNat) := fun a b => rfl
 have e2 : decide (c = 95) = decide (c.toNat = 95) := by
  rw [decide_eq_decide]
  exact ⟨fun h => by rw [h]; rfl, fun h => UInt8.toNat_inj.1 h⟩
 rw [okC, e2, Bool.decide_and, Bool.decide_and, e, e, e, e]
 rfl
def badR (r : Int) : Bool := ((decide (r < 97) || decide (122 < r)) && (decide (r < 48) || decide (57 < r))) && !decide (r = 95)
theorem badR_ok (c : UInt8) : badR (c.toNat : Int) = !okC c := by
 rw [okC_nat, badR]
 rw [Bool.eq_iff_iff]
 simp
 omega
theorem badR_high {r : Nat} (h : 128 ≤ r) : badR (r : Int) = true := by
 rw [badR]; simp; omega
end Go.Tr
namespace Go.Proofs.YtojolcpblacjjaaDoor
open Go Go.Eng Go.RowKit Go.Tr
attribute [local push_cast] lk_nil lk_cons ev_tmp ev_const ev_global ev_func evs_nil evs_cons stp_some stp_none dsts_nil dsts_cons argsE_nil argsE_cons intBin_add intBin_sub intBin_mul intBin_quo intBin_rem intBin_and intBin_or intBin_xor intBin_andNot intBin_eql intBin_neq intBin_lss intBin_leq intBin_gtr intBin_geq intBin_shl intBin_shr strBin_add strBin_eql strBin_neq strBin_lss strBin_leq strBin_gtr strBin_geq pureBin_int pureBin_str pureBin_beq pureBin_bne pureBin_peq pureBin_pne pureBin_seq pureBin_sne pureBin_agg effEq_eql effEq_neq pureUn_not pureUn_neg pureUn_xor pureConv_int pureConv_str pureField_eq pureIndexAddr_s pureIndexAddr_p pureIndex_s oInt_none oInt_some pureSlice_str pureSlice_sl pureB_len pureB_lens pureB_cap pureB_max pureB_min pureB_app pureB_copy po_move po_assign po_pick po_bin po_un po_conv po_field po_extract po_faddr po_iaddr po_index po_slice po_nil po_builtin po_call po_load po_store po_alloc po_box po_build po_buildS po_makeS eo_load eo_store eo_build eo_buildS eo_makeS eo_app eo_call eo_bin eq_load eq_build eq_call eq_bin parts_nil parts_cons outG_none outG_some dstOk_none dstOk_some out_eq outR_eq outOp_eq outQ_eq imm_load immQ_load imm_alloc imm_box imm_store imm_build imm_call imm_bin immQ_build immQ_call immQ_bin imm_buildS imm_makeS v2_nil v2_cons vq_nil vq_cons undef_eq
attribute [local push_cast] List.take_succ_cons List.take_zero List.drop_succ_cons List.drop_zero true_and and_true Option.isSome_some List.getElem?_cons_zero List.getElem?_cons_succ List.length_cons List.length_nil cond_true cond_false Int.toNat_natCast Nat.mul_one Nat.add_zero Nat.zero_add Addr.add_lit bne_self_eq_false beq_self_eq_true Bool.not_true Bool.not_false List.size_toArray Array.getD_eq_getD_getElem? List.getElem?_toArray Option.getD_some decide_true decide_false eq_self Bool.true_beq Bool.false_beq
theorem po_range (P : Program) (l : Env) (t : TypeId) (x : Operand) : pureOp P l (.range t x) = none := rfl
theorem imm_range (P : Program) (l : Env) (w : World) (t : TypeId) (x : Operand) : imm P l (.range t x) w = .eff := rfl
theorem po_next (P : Program) (l : Env) (x : Operand) (b : Bool) : pureOp P l (.next x b) = none := rfl
theorem imm_next (P : Program) (l : Env) (w : World) (x : Operand) (b : Bool) : imm P l (.next x b) w = .eff := rfl
theorem eo_range {P : Program} {l : Env} {t ty : TypeId} {x : Operand} {s : ByteArray} {w : World} {K KL : Value → World → Prop} (hu : uStr P t = true) (hx : ev l x = some (.string s)) (h : KL (.pointer (some ⟨w.heap.size, 0, none⟩)) (w.iter s 0)) : effOp P l (.range t x) ty w K KL := by
 refine ⟨fun y hy => ?_, .pointer (some ⟨w.heap.size, 0, none⟩), w.iter s 0, ?_, h⟩
 ·simp [Op.operands] at hy
  subst hy; rw [hx]; rfl
 ·have := run_range_string w t s (uStr_some hu)
  simp [execOp, opOf, evD, hx, this]
theorem eo_next {P : Program} {l : Env} {ty : TypeId} {x : Operand} {p v : Value} {w w' : World} {K KL : Value → World → Prop} (hr : ∀ ty, (Instr.next p true ty).run P w = .ok v w') (hx : ev l x = some p) (h : KL v w') : effOp P l (.next x true) ty w K KL := by
 refine ⟨fun y hy => ?_, v, w', ?_, h⟩
 ·simp [Op.operands] at hy
  subst hy; rw [hx]; rfl
 ·simp [execOp, opOf, evD, hx, hr]
theorem below_iter (w : World) (s : ByteArray) (k : Nat) : Below w.heap.size w (w.iter s k) := (Below.refl _ w).alloc (Nat.le_refl _) _
theorem bytes_get (s : ByteArray) (i : Nat) (h : i < s.size) : s.data.toList[i]'(by rw [← Lib.size_eq]; exact h) = s[i] := rfl
set_option maxHeartbeats 4000000 in
theorem name_calls (s : ByteArray) (hs : s.size ≤ 1048576) (w : World) : Calls Tryd.prog 43 #[.string s] w (Ret fun r w' => r = .bool (okName s) ∧ Below w.heap.size w w') := by
 refine calls_W (args := [_]) Tryd.func43 rfl Tryd.ntmps43 Tryd.results43 (by simp) ?_
 (repeat first | refine W_seq ?_ | refine zV ?_ | refine W_skip ?_ | refine zY ?_); refine W_reg (fun K hK => ?_); simp only [push_cast, Nat.reduceBEq, Nat.reduceAdd, Nat.reduceLT, Nat.reduceEqDiff, reduceIte, reduceCtorEq, Nat.reduceLeDiff, Nat.reduceSub]; refine hK _ _ ?_; clear hK K
 by_cases h0 : s = { data := #[] }
 ·have hd : decide (s = { data := #[] }) = true := decide_eq_true h0
  (repeat first | refine W_seq ?_ | refine zV ?_ | refine W_skip ?_ | refine zY ?_); refine W_reg (fun K hK => ?_); simp only [push_cast, Nat.reduceBEq, Nat.reduceAdd, Nat.reduceLT, Nat.reduceEqDiff, reduceIte, reduceCtorEq, Nat.reduceLeDiff, Nat.reduceSub, hd]; refine hK _ _ ?_; clear hK K
  (repeat first | refine W_seq ?_ | refine zV ?_ | refine W_skip ?_ | refine zY ?_)
  refine W_cond rfl (fun _ => ?_) (fun h => by cases h)
  (repeat first | refine W_seq ?_ | refine zV ?_ | refine W_skip ?_ | refine zY ?_); refine W_reg (fun K hK => ?_); simp only [push_cast, Nat.reduceBEq, Nat.reduceAdd, Nat.reduceLT, Nat.reduceEqDiff, reduceIte, reduceCtorEq, Nat.reduceLeDiff, Nat.reduceSub]; refine hK _ _ ?_; clear hK K
  (repeat first | refine yN ?_ | refine yP ?_ | refine yQ ?_ | refine yR rfl ?_ | refine yS ?_ | refine zY ?_ | refine W_seq ?_ | refine zV ?_ | refine W_skip ?_ | refine W_exit ?_ | refine W_ret ?_)
  simp only [funQ, resE, tup, lk, Nat.reduceEqDiff, reduceIte, reduceCtorEq]
  refine ⟨?_, Below.refl _ _⟩
  rw [h0]; rfl
 have hd : decide (s = { data := #[] }) = false := decide_eq_false h0
 have hz : 1 ≤ s.size := by
  rcases Nat.eq_zero_or_pos s.size with h | h
  ·exact absurd (ByteArray.size_eq_zero_iff.1 h) h0
  ·exact h
 (repeat first | refine W_seq ?_ | refine zV ?_ | refine W_skip ?_ | refine zY ?_); refine W_reg (fun K hK => ?_); simp only [push_cast, Nat.reduceBEq, Nat.reduceAdd, Nat.reduceLT, Nat.reduceEqDiff, reduceIte, reduceCtorEq, Nat.reduceLeDiff, Nat.reduceSub, hd]; refine hK _ _ ?_; clear hK K
 (repeat first | refine W_seq ?_ | refine zV ?_ | refine W_skip ?_ | refine zY ?_)
 refine W_cond rfl (fun h => ?_) (fun h => ?_)
 ·(repeat first | refine W_seq ?_ | refine zV ?_ | refine W_skip ?_ | refine zY ?_); refine W_reg (fun K hK => ?_); simp only [push_cast, Nat.reduceBEq, Nat.reduceAdd, Nat.reduceLT, Nat.reduceEqDiff, reduceIte, reduceCtorEq, Nat.reduceLeDiff, Nat.reduceSub]; refine hK _ _ ?_; clear hK K
  (repeat first | refine yN ?_ | refine yP ?_ | refine yQ ?_ | refine yR rfl ?_ | refine yS ?_ | refine zY ?_ | refine W_seq ?_ | refine zV ?_ | refine W_skip ?_ | refine W_exit ?_ | refine W_ret ?_)
  simp only [funQ, resE, tup, lk, Nat.reduceEqDiff, reduceIte, reduceCtorEq]
  refine ⟨?_, Below.refl _ _⟩
  have : ¬ s.size ≤ 12 := by simp at h; omega
  simp [okName, this]
 have hz2 : s.size ≤ 12 := by simp at h; omega
 (repeat first | refine W_seq ?_ | refine zV ?_ | refine W_skip ?_ | refine zY ?_)
 (repeat first | refine W_seq ?_ | refine zV ?_ | refine W_skip ?_ | refine zY ?_); refine W_reg (fun K hK => ?_); simp only [push_cast, Nat.reduceBEq, Nat.reduceAdd, Nat.reduceLT, Nat.reduceEqDiff, reduceIte, reduceCtorEq, Nat.reduceLeDiff, Nat.reduceSub, po_range, imm_range]
 refine eo_range st9 rfl ?_
 refine v2s ?_; try simp only [push_cast, Nat.reduceBEq, Nat.reduceAdd, Nat.reduceLT, Nat.reduceEqDiff, reduceIte, reduceCtorEq, Nat.reduceLeDiff, Nat.reduceSub]
 refine hK _ _ ?_; clear hK K
 refine W_kept (l' := _) [0, 13] (by simp only [keep, lk, Nat.reduceEqDiff, reduceIte]; exact rfl) ?_
 (repeat first | refine W_seq ?_ | refine zV ?_ | refine W_skip ?_ | refine zY ?_)
 refine W_block ?_
 refine W_loop (fun i : Nat => [(0, .string s), (13, .pointer (some ⟨w.heap.size, 0, none⟩))]) (fun i w1 => i ≤ s.size ∧ w1 = w.iter s i ∧ (s.data.toList.take i).all okC = true) (fun i => s.size - i) [0, 13] 0 rfl ⟨Nat.zero_le _, rfl, rfl⟩ ?_
 rintro i _ ⟨hi, rfl, ha⟩
 by_cases hlt : i < s.size
 ·(repeat first | refine W_seq ?_ | refine zV ?_ | refine W_skip ?_ | refine zY ?_); refine W_reg (fun K hK => ?_); simp only [push_cast, Nat.reduceBEq, Nat.reduceAdd, Nat.reduceLT, Nat.reduceEqDiff, reduceIte, reduceCtorEq, Nat.reduceLeDiff, Nat.reduceSub, po_next, imm_next]
  refine eo_next (fun _ => run_next_any w s i _ hlt) rfl ?_
  have hd1 : 1 ≤ (Utf8.decode s i).2 ∧ (badR (Utf8.decode s i).1 = true → okC s[i] = false) ∧ (badR (Utf8.decode s i).1 = false → (Utf8.decode s i).2 = 1 ∧ okC s[i] = true) := by
   by_cases h128 : (s[i]).toNat < 128
   ·rw [decode_ascii s i hlt h128]
    refine ⟨Nat.le_refl _, fun h => ?_, fun h => ⟨rfl, ?_⟩⟩ <;> rw [badR_ok] at h <;> simpa using h
   ·have hh := decode_high s i hlt (by omega)
    refine ⟨hh.2, fun _ => ?_, fun h => ?_⟩
    ·rw [okC_nat]; simp; omega
    ·rw [badR_high hh.1] at h; cases h
  generalize hdec : Utf8.decode s i = d at hd1 ⊢
  obtain ⟨r, k⟩ := d
  obtain ⟨d1, d2, d3⟩ := hd1
  simp only at d1 d2 d3
  refine v2s ?_; try simp only [push_cast, Nat.reduceBEq, Nat.reduceAdd, Nat.reduceLT, Nat.reduceEqDiff, reduceIte, reduceCtorEq, Nat.reduceLeDiff, Nat.reduceSub]
  refine hK _ _ ?_; clear hK K
  (repeat first | refine W_seq ?_ | refine zV ?_ | refine W_skip ?_ | refine zY ?_)
  refine W_cond rfl (fun _ => ?_) (fun h => by cases h)
  (repeat first | refine W_seq ?_ | refine zV ?_ | refine W_skip ?_ | refine zY ?_)
  refine W_block ?_
  (repeat first | refine W_seq ?_ | refine zV ?_ | refine W_skip ?_ | refine zY ?_); refine W_reg (fun K hK => ?_); simp only [push_cast, Nat.reduceBEq, Nat.reduceAdd, Nat.reduceLT, Nat.reduceEqDiff, reduceIte, reduceCtorEq, Nat.reduceLeDiff, Nat.reduceSub]; refine hK _ _ ?_; clear hK K
  have bad : ∀ {Q : Prop}, badR r = true → (okName s = false → Q) → Q := fun {Q} hb f => f (by
   have hk := d2 hb
   have hm : s[i] ∈ s.data.toList := by
    rw [← bytes_get s i hlt]; exact List.getElem_mem _
   have : s.data.toList.all okC = false := by
    rw [Bool.eq_false_iff]
    intro hall
    rw [List.all_eq_true.1 hall _ hm] at hk; cases hk
   rw [okName, this]; simp)
  have good : badR r = false → k = 1 ∧ (s.data.toList.take (i + 1)).all okC = true := fun hb => by
   obtain ⟨e1, e2⟩ := d3 hb
   refine ⟨e1, ?_⟩
   rw [List.take_succ_eq_append_getElem (by rw [← Lib.size_eq]; exact hlt), List.all_append, ha, bytes_get s i hlt]
   simp [e2]
  have cases7 : (r < 48 ∧ badR r = true) ∨ (48 ≤ r ∧ r ≤ 57 ∧ badR r = false) ∨ (57 < r ∧ r < 95 ∧ badR r = true) ∨ (r = 95 ∧ badR r = false) ∨ (r = 96 ∧ badR r = true) ∨ (97 ≤ r ∧ r ≤ 122 ∧ badR r = false) ∨ (122 < r ∧ badR r = true) := by
   unfold badR
   simp
   omega
  rcases cases7 with ⟨c1, hb⟩ | ⟨c1, c2, hb⟩ | ⟨c1, c2, hb⟩ | ⟨c1, hb⟩ | ⟨c1, hb⟩ | ⟨c1, c2, hb⟩ | ⟨c1, hb⟩
  ·refine bad hb fun hbad => ?_
   (repeat first | refine W_seq ?_ | refine zV ?_ | refine W_skip ?_ | refine zY ?_); refine W_reg (fun K hK => ?_); simp (maxSteps := 2000000) (disch := omega) only [push_cast, ↓Int.cast_ofNat_Int, Nat.reduceBEq, Nat.reduceAdd, Nat.reduceLT, Nat.reduceEqDiff, reduceIte, reduceCtorEq, Nat.reduceLeDiff, Nat.reduceSub, List.reduceReplicate, Nat.reduceMul, Int.reduceToNat, Int.toNat_natCast, Nat.reducePow, reduceIte]; refine hK _ _ ?_; clear hK K
   (repeat first | refine W_seq ?_ | refine zV ?_ | refine W_skip ?_ | refine zY ?_)
   refine W_cond rfl (fun _ => ?_) (fun h => by cases h)
   (repeat first | refine W_seq ?_ | refine zV ?_ | refine W_skip ?_ | refine zY ?_); refine W_reg (fun K hK => ?_); simp only [push_cast, Nat.reduceBEq, Nat.reduceAdd, Nat.reduceLT, Nat.reduceEqDiff, reduceIte, reduceCtorEq, Nat.reduceLeDiff, Nat.reduceSub]; refine hK _ _ ?_; clear hK K
   (repeat first | refine yN ?_ | refine yP ?_ | refine yQ ?_ | refine yR rfl ?_ | refine yS ?_ | refine zY ?_ | refine W_seq ?_ | refine zV ?_ | refine W_skip ?_ | refine W_exit ?_ | refine W_ret ?_)
   simp only [funQ, resE, tup, lk, Nat.reduceEqDiff, reduceIte, reduceCtorEq]
   exact ⟨by rw [hbad], below_iter _ _ _⟩
  ·obtain ⟨rfl, ha2⟩ := good hb
   (repeat first | refine W_seq ?_ | refine zV ?_ | refine W_skip ?_ | refine zY ?_); refine W_reg (fun K hK => ?_); simp (maxSteps := 2000000) (disch := omega) only [push_cast, ↓Int.cast_ofNat_Int, Nat.reduceBEq, Nat.reduceAdd, Nat.reduceLT, Nat.reduceEqDiff, reduceIte, reduceCtorEq, Nat.reduceLeDiff, Nat.reduceSub, List.reduceReplicate, Nat.reduceMul, Int.reduceToNat, Int.toNat_natCast, Nat.reducePow, reduceIte]; refine hK _ _ ?_; clear hK K
   (repeat first | refine W_seq ?_ | refine zV ?_ | refine W_skip ?_ | refine zY ?_)
   refine W_cond rfl (fun h => by cases h) (fun _ => ?_)
   (repeat first | refine yN ?_ | refine yP ?_ | refine yQ ?_ | refine yR rfl ?_ | refine yS ?_ | refine zY ?_ | refine W_seq ?_ | refine zV ?_ | refine W_skip ?_ | refine W_exit ?_ | refine W_ret ?_)
   exact ⟨i + 1, rfl, ⟨hlt, rfl, ha2⟩, by omega⟩
  ·refine bad hb fun hbad => ?_
   (repeat first | refine W_seq ?_ | refine zV ?_ | refine W_skip ?_ | refine zY ?_); refine W_reg (fun K hK => ?_); simp (maxSteps := 2000000) (disch := omega) only [push_cast, ↓Int.cast_ofNat_Int, Nat.reduceBEq, Nat.reduceAdd, Nat.reduceLT, Nat.reduceEqDiff, reduceIte, reduceCtorEq, Nat.reduceLeDiff, Nat.reduceSub, List.reduceReplicate, Nat.reduceMul, Int.reduceToNat, Int.toNat_natCast, Nat.reducePow, reduceIte]; refine hK _ _ ?_; clear hK K
   (repeat first | refine W_seq ?_ | refine zV ?_ | refine W_skip ?_ | refine zY ?_)
   refine W_cond rfl (fun _ => ?_) (fun h => by cases h)
   (repeat first | refine W_seq ?_ | refine zV ?_ | refine W_skip ?_ | refine zY ?_); refine W_reg (fun K hK => ?_); simp only [push_cast, Nat.reduceBEq, Nat.reduceAdd, Nat.reduceLT, Nat.reduceEqDiff, reduceIte, reduceCtorEq, Nat.reduceLeDiff, Nat.reduceSub]; refine hK _ _ ?_; clear hK K
   (repeat first | refine yN ?_ | refine yP ?_ | refine yQ ?_ | refine yR rfl ?_ | refine yS ?_ | refine zY ?_ | refine W_seq ?_ | refine zV ?_ | refine W_skip ?_ | refine W_exit ?_ | refine W_ret ?_)
   simp only [funQ, resE, tup, lk, Nat.reduceEqDiff, reduceIte, reduceCtorEq]
   exact ⟨by rw [hbad], below_iter _ _ _⟩
  ·obtain ⟨rfl, ha2⟩ := good hb
   (repeat first | refine W_seq ?_ | refine zV ?_ | refine W_skip ?_ | refine zY ?_); refine W_reg (fun K hK => ?_); simp (maxSteps := 2000000) (disch := omega) only [push_cast, ↓Int.cast_ofNat_Int, Nat.reduceBEq, Nat.reduceAdd, Nat.reduceLT, Nat.reduceEqDiff, reduceIte, reduceCtorEq, Nat.reduceLeDiff, Nat.reduceSub, List.reduceReplicate, Nat.reduceMul, Int.reduceToNat, Int.toNat_natCast, Nat.reducePow, reduceIte]; refine hK _ _ ?_; clear hK K
   (repeat first | refine W_seq ?_ | refine zV ?_ | refine W_skip ?_ | refine zY ?_)
   refine W_cond rfl (fun h => by cases h) (fun _ => ?_)
   (repeat first | refine yN ?_ | refine yP ?_ | refine yQ ?_ | refine yR rfl ?_ | refine yS ?_ | refine zY ?_ | refine W_seq ?_ | refine zV ?_ | refine W_skip ?_ | refine W_exit ?_ | refine W_ret ?_)
   exact ⟨i + 1, rfl, ⟨hlt, rfl, ha2⟩, by omega⟩
  ·refine bad hb fun hbad => ?_
   (repeat first | refine W_seq ?_ | refine zV ?_ | refine W_skip ?_ | refine zY ?_); refine W_reg (fun K hK => ?_); simp (maxSteps := 2000000) (disch := omega) only [push_cast, ↓Int.cast_ofNat_Int, Nat.reduceBEq, Nat.reduceAdd, Nat.reduceLT, Nat.reduceEqDiff, reduceIte, reduceCtorEq, Nat.reduceLeDiff, Nat.reduceSub, List.reduceReplicate, Nat.reduceMul, Int.reduceToNat, Int.toNat_natCast, Nat.reducePow, reduceIte]; refine hK _ _ ?_; clear hK K
   (repeat first | refine W_seq ?_ | refine zV ?_ | refine W_skip ?_ | refine zY ?_)
   refine W_cond rfl (fun _ => ?_) (fun h => by cases h)
   (repeat first | refine W_seq ?_ | refine zV ?_ | refine W_skip ?_ | refine zY ?_); refine W_reg (fun K hK => ?_); simp only [push_cast, Nat.reduceBEq, Nat.reduceAdd, Nat.reduceLT, Nat.reduceEqDiff, reduceIte, reduceCtorEq, Nat.reduceLeDiff, Nat.reduceSub]; refine hK _ _ ?_; clear hK K
   (repeat first | refine yN ?_ | refine yP ?_ | refine yQ ?_ | refine yR rfl ?_ | refine yS ?_ | refine zY ?_ | refine W_seq ?_ | refine zV ?_ | refine W_skip ?_ | refine W_exit ?_ | refine W_ret ?_)
   simp only [funQ, resE, tup, lk, Nat.reduceEqDiff, reduceIte, reduceCtorEq]
   exact ⟨by rw [hbad], below_iter _ _ _⟩
  ·obtain ⟨rfl, ha2⟩ := good hb
   (repeat first | refine W_seq ?_ | refine zV ?_ | refine W_skip ?_ | refine zY ?_); refine W_reg (fun K hK => ?_); simp (maxSteps := 2000000) (disch := omega) only [push_cast, ↓Int.cast_ofNat_Int, Nat.reduceBEq, Nat.reduceAdd, Nat.reduceLT, Nat.reduceEqDiff, reduceIte, reduceCtorEq, Nat.reduceLeDiff, Nat.reduceSub, List.reduceReplicate, Nat.reduceMul, Int.reduceToNat, Int.toNat_natCast, Nat.reducePow, reduceIte]; refine hK _ _ ?_; clear hK K
   (repeat first | refine W_seq ?_ | refine zV ?_ | refine W_skip ?_ | refine zY ?_)
   refine W_cond rfl (fun h => by cases h) (fun _ => ?_)
   (repeat first | refine yN ?_ | refine yP ?_ | refine yQ ?_ | refine yR rfl ?_ | refine yS ?_ | refine zY ?_ | refine W_seq ?_ | refine zV ?_ | refine W_skip ?_ | refine W_exit ?_ | refine W_ret ?_)
   exact ⟨i + 1, rfl, ⟨hlt, rfl, ha2⟩, by omega⟩
  ·refine bad hb fun hbad => ?_
   (repeat first | refine W_seq ?_ | refine zV ?_ | refine W_skip ?_ | refine zY ?_); refine W_reg (fun K hK => ?_); simp (maxSteps := 2000000) (disch := omega) only [push_cast, ↓Int.cast_ofNat_Int, Nat.reduceBEq, Nat.reduceAdd, Nat.reduceLT, Nat.reduceEqDiff, reduceIte, reduceCtorEq, Nat.reduceLeDiff, Nat.reduceSub, List.reduceReplicate, Nat.reduceMul, Int.reduceToNat, Int.toNat_natCast, Nat.reducePow, reduceIte]; refine hK _ _ ?_; clear hK K
   (repeat first | refine W_seq ?_ | refine zV ?_ | refine W_skip ?_ | refine zY ?_)
   refine W_cond rfl (fun _ => ?_) (fun h => by cases h)
   (repeat first | refine W_seq ?_ | refine zV ?_ | refine W_skip ?_ | refine zY ?_); refine W_reg (fun K hK => ?_); simp only [push_cast, Nat.reduceBEq, Nat.reduceAdd, Nat.reduceLT, Nat.reduceEqDiff, reduceIte, reduceCtorEq, Nat.reduceLeDiff, Nat.reduceSub]; refine hK _ _ ?_; clear hK K
   (repeat first | refine yN ?_ | refine yP ?_ | refine yQ ?_ | refine yR rfl ?_ | refine yS ?_ | refine zY ?_ | refine W_seq ?_ | refine zV ?_ | refine W_skip ?_ | refine W_exit ?_ | refine W_ret ?_)
   simp only [funQ, resE, tup, lk, Nat.reduceEqDiff, reduceIte, reduceCtorEq]
   exact ⟨by rw [hbad], below_iter _ _ _⟩
 ·have hne : i = s.size := by omega
  subst hne
  (repeat first | refine W_seq ?_ | refine zV ?_ | refine W_skip ?_ | refine zY ?_); refine W_reg (fun K hK => ?_); simp only [push_cast, Nat.reduceBEq, Nat.reduceAdd, Nat.reduceLT, Nat.reduceEqDiff, reduceIte, reduceCtorEq, Nat.reduceLeDiff, Nat.reduceSub, po_next, imm_next]
  refine eo_next (fun _ => run_next_end w s _ _ hlt) rfl ?_
  refine v2s ?_; try simp only [push_cast, Nat.reduceBEq, Nat.reduceAdd, Nat.reduceLT, Nat.reduceEqDiff, reduceIte, reduceCtorEq, Nat.reduceLeDiff, Nat.reduceSub]
  refine hK _ _ ?_; clear hK K
  (repeat first | refine W_seq ?_ | refine zV ?_ | refine W_skip ?_ | refine zY ?_)
  refine W_cond rfl (fun h => by cases h) (fun _ => ?_)
  (repeat first | refine yN ?_ | refine yP ?_ | refine yQ ?_ | refine yR rfl ?_ | refine yS ?_ | refine zY ?_ | refine W_seq ?_ | refine zV ?_ | refine W_skip ?_ | refine W_exit ?_ | refine W_ret ?_)
  (repeat first | refine W_seq ?_ | refine zV ?_ | refine W_skip ?_ | refine zY ?_); refine W_reg (fun K hK => ?_); simp only [push_cast, Nat.reduceBEq, Nat.reduceAdd, Nat.reduceLT, Nat.reduceEqDiff, reduceIte, reduceCtorEq, Nat.reduceLeDiff, Nat.reduceSub]; refine hK _ _ ?_; clear hK K
  (repeat first | refine yN ?_ | refine yP ?_ | refine yQ ?_ | refine yR rfl ?_ | refine yS ?_ | refine zY ?_ | refine W_seq ?_ | refine zV ?_ | refine W_skip ?_ | refine W_exit ?_ | refine W_ret ?_)
  simp only [funQ, resE, tup, lk, Nat.reduceEqDiff, reduceIte, reduceCtorEq]
  refine ⟨?_, below_iter _ _ _⟩
  rw [Lib.size_eq, List.take_length] at ha
  rw [okName, ha]
  have e1 : s.size = s.data.toList.length := Lib.size_eq s
  simp
  omega
theorem pname_H (s : ByteArray) (hs : s.size ≤ 1048576) : HFun Tryd.prog 43 [.v (.string s)] (fun h st => h = .v (.bool (okName s))) := by
 refine (hfun_low fun w vs R => ?_).mono fun h st q => q.1
 obtain ⟨r1, r2⟩ := R
 match vs, r1 with
 | [x], _ =>
 have ha := repH_v (r2 0 (by simp) (by simp))
 simp only [List.getElem_cons_zero] at ha
 subst ha
 exact name_calls s hs w
end Go.Proofs.YtojolcpblacjjaaDoor
