/-
  Reader.Int, Text.
-/
import Derived.Test.YtppnicpbncfhnaaRdu
set_option linter.unusedSimpArgs false
set_option linter.unusedVariables false
set_option maxRecDepth 20000
namespace Go.Proofs.Ytppnicpbncfhnaa
open Go Go.Eng Go.RowKit

def uz (x : Int) : Int := bits .xor .i64 (IntKind.i64.wrap (x.fdiv (2 ^ min 1 IntKind.u64.bits))) (IntKind.i64.wrap (0 - IntKind.i64.wrap (bits .and .u64 x 1)))
theorem uz_def (x : Int) : bits .xor .i64 (IntKind.i64.wrap (x.fdiv (2 ^ min 1 IntKind.u64.bits))) (IntKind.i64.wrap (0 - IntKind.i64.wrap (bits .and .u64 x 1))) = uz x := rfl
theorem wi64 (n : Int) : IntKind.i64.wrap n = (n + 9223372036854775808) % 18446744073709551616 - 9223372036854775808 := IntKind.wrap_i64 n
theorem and1 {x : Nat} (h : x ≤ 18446744073709551615) : bits .and .u64 (x : Int) 1 = ((x % 2 : Nat) : Int) := by
  have := bits_mask .u64 64 (by decide) (fun n h0 h1 => by rw [wu64]; omega) 1 (by decide) (x : Int) (by omega) (by omega)
  rw [show ((2 : Int) ^ 1 - 1) = 1 from rfl] at this
  rw [this]; omega
theorem uz_eq {x : Nat} (h : x ≤ 18446744073709551615) : uz x = unzz x := by
  unfold uz unzz
  rw [and1 h, show min 1 IntKind.u64.bits = 1 from rfl, Int.fdiv_eq_ediv_of_nonneg _ (by decide)]
  have e1 : IntKind.i64.wrap ((x : Int) / 2 ^ 1) = ((x / 2 : Nat) : Int) := by rw [wi64]; omega
  rw [e1]
  by_cases h2 : x % 2 = 0
  · rw [if_pos h2, h2]
    show IntKind.i64.wrap ((BitVec.ofInt 64 ((x / 2 : Nat) : Int) ^^^ BitVec.ofInt 64 0).toNat : Nat) = _
    rw [show BitVec.ofInt 64 0 = 0#64 from rfl, BitVec.xor_zero, BitVec.toNat_ofInt, wi64]
    omega
  · rw [if_neg h2, show x % 2 = 1 by omega]
    show IntKind.i64.wrap ((BitVec.ofInt 64 ((x / 2 : Nat) : Int) ^^^ BitVec.ofInt 64 (-1)).toNat : Nat) = _
    rw [show BitVec.ofInt 64 (-1) = BitVec.allOnes 64 from rfl, BitVec.xor_allOnes, BitVec.toNat_not, BitVec.toNat_ofInt, wi64]
    omega
set_option maxHeartbeats 4000000 in
theorem rint_H (s : ByteArray) (i : Nat) (hi : i ≤ s.size) (hs : s.size ≤ 140737488355328) : HRcv Try.prog 27 82 (rdr s i) [] (fun h cs => h = .tup [.v (.int .i64 (rint s i).1), .v (.int .i64 (rint s i).2.1)] ∧ cs = rdr s (rint s i).2.2) := by
  obtain ⟨b1, b2, b3⟩ := vread_bound s i hi
  have hv := vread_H s i hi hs
  obtain ⟨r, hr⟩ : ∃ r, r = vread s i := ⟨_, rfl⟩
  unfold rint
  rw [← hr] at hv b1 b2 b3 ⊢
  clear hr
  obtain ⟨x, n, e⟩ := r
  dsimp only at b1 b2 b3 ⊢
  refine hrcv (N := 30) Try.func27 rfl Try.ntmps27 Try.results27 (by simp) ?_
  simp only [rdr, List.map_cons, List.map_nil]
  (repeat first | refine HW_seq ?_ | refine hseqQ_normal ?_ | refine HW_skip ?_ | refine hblkQ_normal ?_ | refine HW_block ?_); refine HW_reg (fun K hK => ?_); simp (maxSteps := 2000000) (disch := omega) only [push_cast, ↓Int.cast_ofNat_Int, Nat.reduceBEq, Nat.reduceAdd, Nat.reduceLT, Nat.reduceEqDiff, reduceIte, reduceCtorEq, Nat.reduceLeDiff, Nat.reduceSub, List.reduceReplicate, Nat.reduceMul, Int.reduceToNat, Int.toNat_natCast, Nat.reducePow, reduceIte]; refine hK _ ?_; clear hK K
  (repeat first | refine HW_seq ?_ | refine hseqQ_normal ?_ | refine HW_skip ?_ | refine hblkQ_normal ?_ | refine HW_block ?_)
  (repeat first | refine HW_seq ?_ | refine hseqQ_normal ?_ | refine HW_skip ?_ | refine hblkQ_normal ?_ | refine HW_block ?_); refine HW_reg (fun K hK => ?_); simp (maxSteps := 2000000) (disch := omega) only [push_cast, ↓Int.cast_ofNat_Int, Nat.reduceBEq, Nat.reduceAdd, Nat.reduceLT, Nat.reduceEqDiff, reduceIte, reduceCtorEq, Nat.reduceLeDiff, Nat.reduceSub, List.reduceReplicate, Nat.reduceMul, Int.reduceToNat, Int.toNat_natCast, Nat.reducePow, reduceIte]; refine hK _ ?_; clear hK K
  refine HW_false rfl ?_
  (repeat first | refine HW_seq ?_ | refine hseqQ_normal ?_ | refine HW_skip ?_ | refine hblkQ_normal ?_ | refine HW_block ?_)
  (repeat first | refine HW_seq ?_ | refine hseqQ_normal ?_ | refine HW_skip ?_ | refine hblkQ_normal ?_ | refine HW_block ?_); refine HW_reg (fun K hK => ?_); simp (maxSteps := 2000000) (disch := omega) only [push_cast, ↓Int.cast_ofNat_Int, Nat.reduceBEq, Nat.reduceAdd, Nat.reduceLT, Nat.reduceEqDiff, reduceIte, reduceCtorEq, Nat.reduceLeDiff, Nat.reduceSub, List.reduceReplicate, Nat.reduceMul, Int.reduceToNat, Int.toNat_natCast, Nat.reducePow, reduceIte]
  refine hatP (args := []) cl57 rfl hv ?_
  rintro _ _ ⟨rfl, rfl⟩
  simp only [vtup, rdr, List.map_cons, List.map_nil]
  with_reducible refine hstop ?_; simp (maxSteps := 2000000) (disch := omega) only [push_cast, ↓Int.cast_ofNat_Int, Nat.reduceBEq, Nat.reduceAdd, Nat.reduceLT, Nat.reduceEqDiff, reduceIte, reduceCtorEq, Nat.reduceLeDiff, Nat.reduceSub, List.reduceReplicate, Nat.reduceMul, Int.reduceToNat, Int.toNat_natCast, Nat.reducePow, reduceIte]
  refine hK _ ?_; clear hK K
  by_cases he : e = 0
  · rw [if_pos he, if_neg (by omega)]
    (repeat first | refine HW_seq ?_ | refine hseqQ_normal ?_ | refine HW_skip ?_ | refine hblkQ_normal ?_ | refine HW_block ?_); refine HW_reg (fun K hK => ?_); simp (maxSteps := 2000000) (disch := omega) only [push_cast, ↓Int.cast_ofNat_Int, Nat.reduceBEq, Nat.reduceAdd, Nat.reduceLT, Nat.reduceEqDiff, reduceIte, reduceCtorEq, Nat.reduceLeDiff, Nat.reduceSub, List.reduceReplicate, Nat.reduceMul, Int.reduceToNat, Int.toNat_natCast, Nat.reducePow, reduceIte]; refine hK _ ?_; clear hK K
    refine HW_false rfl ?_
    (repeat first | refine HW_seq ?_ | refine hseqQ_normal ?_ | refine HW_skip ?_ | refine hblkQ_normal ?_ | refine HW_block ?_)
    (repeat first | refine HW_seq ?_ | refine hseqQ_normal ?_ | refine HW_skip ?_ | refine hblkQ_normal ?_ | refine HW_block ?_); refine HW_reg (fun K hK => ?_); simp (maxSteps := 2000000) (disch := omega) only [push_cast, ↓Int.cast_ofNat_Int, Nat.reduceBEq, Nat.reduceAdd, Nat.reduceLT, Nat.reduceEqDiff, reduceIte, reduceCtorEq, Nat.reduceLeDiff, Nat.reduceSub, List.reduceReplicate, Nat.reduceMul, Int.reduceToNat, Int.toNat_natCast, Nat.reducePow, reduceIte]; refine hK _ ?_; clear hK K
    have e1 := uz_eq b1
    (repeat first | refine HW_seq ?_ | refine hseqQ_normal ?_ | refine HW_skip ?_ | refine hblkQ_normal ?_ | refine HW_block ?_); refine HW_reg (fun K hK => ?_); simp (maxSteps := 2000000) (disch := omega) only [push_cast, ↓Int.cast_ofNat_Int, Nat.reduceBEq, Nat.reduceAdd, Nat.reduceLT, Nat.reduceEqDiff, reduceIte, reduceCtorEq, Nat.reduceLeDiff, Nat.reduceSub, List.reduceReplicate, Nat.reduceMul, Int.reduceToNat, Int.toNat_natCast, Nat.reducePow, reduceIte, uz_def, e1]
    refine ⟨by decide, ?_⟩
    refine hK _ ?_; clear hK K
    (repeat first | refine hseqQ_ret ?_ | refine hseqQ_exit ?_ | refine hblkQ_exit ?_ | refine hblkQ_other rfl ?_ | refine hblkQ_ret ?_ | refine hblkQ_normal ?_ | refine HW_seq ?_ | refine hseqQ_normal ?_ | refine HW_skip ?_ | refine HW_exit ?_ | refine HW_ret ?_)
    simp only [hrcvQ_normal, hrcvQ_ret, hfunQ_normal, hfunQ_ret, resH_nil, resH_cons, resH_cell, resC_go, htup_one, htup_two, hlk_nil, hlk_cons, Nat.reduceEqDiff, reduceIte, reduceCtorEq]
    exact hrcv_t (cells := rdr s (i + n)) (xs := [.int .i64 (unzz x), .int .i64 0]) rfl rfl ⟨rfl, rfl⟩
  · rw [if_neg he, if_pos he]
    (repeat first | refine HW_seq ?_ | refine hseqQ_normal ?_ | refine HW_skip ?_ | refine hblkQ_normal ?_ | refine HW_block ?_); refine HW_reg (fun K hK => ?_); simp (maxSteps := 2000000) (disch := omega) only [push_cast, ↓Int.cast_ofNat_Int, Nat.reduceBEq, Nat.reduceAdd, Nat.reduceLT, Nat.reduceEqDiff, reduceIte, reduceCtorEq, Nat.reduceLeDiff, Nat.reduceSub, List.reduceReplicate, Nat.reduceMul, Int.reduceToNat, Int.toNat_natCast, Nat.reducePow, reduceIte]; refine hK _ ?_; clear hK K
    refine HW_true rfl ?_
    (repeat first | refine HW_seq ?_ | refine hseqQ_normal ?_ | refine HW_skip ?_ | refine hblkQ_normal ?_ | refine HW_block ?_); refine HW_reg (fun K hK => ?_); simp (maxSteps := 2000000) (disch := omega) only [push_cast, ↓Int.cast_ofNat_Int, Nat.reduceBEq, Nat.reduceAdd, Nat.reduceLT, Nat.reduceEqDiff, reduceIte, reduceCtorEq, Nat.reduceLeDiff, Nat.reduceSub, List.reduceReplicate, Nat.reduceMul, Int.reduceToNat, Int.toNat_natCast, Nat.reducePow, reduceIte]; refine hK _ ?_; clear hK K
    (repeat first | refine hseqQ_ret ?_ | refine hseqQ_exit ?_ | refine hblkQ_exit ?_ | refine hblkQ_other rfl ?_ | refine hblkQ_ret ?_ | refine hblkQ_normal ?_ | refine HW_seq ?_ | refine hseqQ_normal ?_ | refine HW_skip ?_ | refine HW_exit ?_ | refine HW_ret ?_)
    simp only [hrcvQ_normal, hrcvQ_ret, hfunQ_normal, hfunQ_ret, resH_nil, resH_cons, resH_cell, resC_go, htup_one, htup_two, hlk_nil, hlk_cons, Nat.reduceEqDiff, reduceIte, reduceCtorEq]
    exact hrcv_t (cells := rdr s i) (xs := [.int .i64 0, .int .i64 e]) rfl rfl ⟨rfl, rfl⟩
/-- the text that is read, the error, the place then -/
def subS (s : ByteArray) (i j : Nat) : ByteArray := s.extract i j
def rtext (s : ByteArray) (i : Nat) : ByteArray × Nat × Nat :=
  if (ruint s i).2.1 ≠ 0 then (⟨#[]⟩, (ruint s i).2.1, i) else if s.size - (ruint s i).2.2 < (ruint s i).1 then (⟨#[]⟩, 2, i) else
    (s.extract (ruint s i).2.2 ((ruint s i).2.2 + (ruint s i).1), 0, (ruint s i).2.2 + (ruint s i).1)
theorem ruint_bound (s : ByteArray) (i : Nat) (hi : i ≤ s.size) : (ruint s i).1 ≤ 9223372036854775807 ∧ (ruint s i).2.2 ≤ s.size ∧ (ruint s i).2.1 ≤ 3 := by
  obtain ⟨b1, b2, b3⟩ := vread_bound s i hi
  unfold ruint
  split
  · exact ⟨by simp, hi, b3⟩
  · split
    · exact ⟨by simp, hi, by simp⟩
    · exact ⟨by show (vread s i).1 ≤ _; omega, b2, by simp⟩
set_option maxHeartbeats 4000000 in
theorem rtext_H (s : ByteArray) (i : Nat) (hi : i ≤ s.size) (hs : s.size ≤ 140737488355328) : HRcv Try.prog 28 82 (rdr s i) [] (fun h cs => h = .tup [.v (.string (rtext s i).1), .v (.int .i64 (rtext s i).2.1)] ∧ cs = rdr s (rtext s i).2.2) := by
  obtain ⟨b1, b2, b3⟩ := ruint_bound s i hi
  have hv := ruint_H s i hi hs
  obtain ⟨r, hr⟩ : ∃ r, r = ruint s i := ⟨_, rfl⟩
  unfold rtext
  rw [← hr] at hv b1 b2 b3 ⊢
  have hne : r.2.1 ≠ 0 → r.2.2 = i := fun h => by
    rw [hr] at h ⊢
    unfold ruint at h ⊢
    (repeat' split) <;> simp_all
  clear hr
  obtain ⟨x, e, p⟩ := r
  dsimp only at b1 b2 b3 hne ⊢
  refine hrcv (N := 56) Try.func28 rfl Try.ntmps28 Try.results28 (by simp) ?_
  simp only [rdr, List.map_cons, List.map_nil] at hv ⊢
  (repeat first | refine HW_seq ?_ | refine hseqQ_normal ?_ | refine HW_skip ?_ | refine hblkQ_normal ?_ | refine HW_block ?_); refine HW_reg (fun K hK => ?_); simp (maxSteps := 2000000) (disch := omega) only [push_cast, ↓Int.cast_ofNat_Int, Nat.reduceBEq, Nat.reduceAdd, Nat.reduceLT, Nat.reduceEqDiff, reduceIte, reduceCtorEq, Nat.reduceLeDiff, Nat.reduceSub, List.reduceReplicate, Nat.reduceMul, Int.reduceToNat, Int.toNat_natCast, Nat.reducePow, reduceIte]; refine hK _ ?_; clear hK K
  (repeat first | refine HW_seq ?_ | refine hseqQ_normal ?_ | refine HW_skip ?_ | refine hblkQ_normal ?_ | refine HW_block ?_)
  (repeat first | refine HW_seq ?_ | refine hseqQ_normal ?_ | refine HW_skip ?_ | refine hblkQ_normal ?_ | refine HW_block ?_); refine HW_reg (fun K hK => ?_); simp (maxSteps := 2000000) (disch := omega) only [push_cast, ↓Int.cast_ofNat_Int, Nat.reduceBEq, Nat.reduceAdd, Nat.reduceLT, Nat.reduceEqDiff, reduceIte, reduceCtorEq, Nat.reduceLeDiff, Nat.reduceSub, List.reduceReplicate, Nat.reduceMul, Int.reduceToNat, Int.toNat_natCast, Nat.reducePow, reduceIte]; refine hK _ ?_; clear hK K
  refine HW_false rfl ?_
  (repeat first | refine HW_seq ?_ | refine hseqQ_normal ?_ | refine HW_skip ?_ | refine hblkQ_normal ?_ | refine HW_block ?_)
  (repeat first | refine HW_seq ?_ | refine hseqQ_normal ?_ | refine HW_skip ?_ | refine hblkQ_normal ?_ | refine HW_block ?_); refine HW_reg (fun K hK => ?_); simp (maxSteps := 2000000) (disch := omega) only [push_cast, ↓Int.cast_ofNat_Int, Nat.reduceBEq, Nat.reduceAdd, Nat.reduceLT, Nat.reduceEqDiff, reduceIte, reduceCtorEq, Nat.reduceLeDiff, Nat.reduceSub, List.reduceReplicate, Nat.reduceMul, Int.reduceToNat, Int.toNat_natCast, Nat.reducePow, reduceIte]; refine hK _ ?_; clear hK K
  (repeat first | refine HW_seq ?_ | refine hseqQ_normal ?_ | refine HW_skip ?_ | refine hblkQ_normal ?_ | refine HW_block ?_); refine HW_reg (fun K hK => ?_); simp (maxSteps := 2000000) (disch := omega) only [push_cast, ↓Int.cast_ofNat_Int, Nat.reduceBEq, Nat.reduceAdd, Nat.reduceLT, Nat.reduceEqDiff, reduceIte, reduceCtorEq, Nat.reduceLeDiff, Nat.reduceSub, List.reduceReplicate, Nat.reduceMul, Int.reduceToNat, Int.toNat_natCast, Nat.reducePow, reduceIte]
  refine hatP (args := []) cl26 rfl hv ?_
  rintro _ _ ⟨rfl, rfl⟩
  simp only [List.map_cons, List.map_nil]
  with_reducible refine hstop ?_; simp (maxSteps := 2000000) (disch := omega) only [push_cast, ↓Int.cast_ofNat_Int, Nat.reduceBEq, Nat.reduceAdd, Nat.reduceLT, Nat.reduceEqDiff, reduceIte, reduceCtorEq, Nat.reduceLeDiff, Nat.reduceSub, List.reduceReplicate, Nat.reduceMul, Int.reduceToNat, Int.toNat_natCast, Nat.reducePow, reduceIte]
  refine hK _ ?_; clear hK K
  by_cases he : e = 0
  · rw [if_neg (by omega)]
    have hl := left_H s p b2 hs
    by_cases hx : s.size - p < x
    · rw [if_pos hx]
      (repeat first | refine HW_seq ?_ | refine hseqQ_normal ?_ | refine HW_skip ?_ | refine hblkQ_normal ?_ | refine HW_block ?_); refine HW_reg (fun K hK => ?_); simp (maxSteps := 2000000) (disch := omega) only [push_cast, ↓Int.cast_ofNat_Int, Nat.reduceBEq, Nat.reduceAdd, Nat.reduceLT, Nat.reduceEqDiff, reduceIte, reduceCtorEq, Nat.reduceLeDiff, Nat.reduceSub, List.reduceReplicate, Nat.reduceMul, Int.reduceToNat, Int.toNat_natCast, Nat.reducePow, reduceIte]
      refine hatP (args := []) cl29 rfl hl ?_
      rintro _ _ ⟨rfl, rfl⟩
      simp only [rdr, List.map_cons, List.map_nil]
      with_reducible refine hstop ?_; simp (maxSteps := 2000000) (disch := omega) only [push_cast, ↓Int.cast_ofNat_Int, Nat.reduceBEq, Nat.reduceAdd, Nat.reduceLT, Nat.reduceEqDiff, reduceIte, reduceCtorEq, Nat.reduceLeDiff, Nat.reduceSub, List.reduceReplicate, Nat.reduceMul, Int.reduceToNat, Int.toNat_natCast, Nat.reducePow, reduceIte]
      refine hK _ ?_; clear hK K
      refine HW_true rfl ?_
      (repeat first | refine HW_seq ?_ | refine hseqQ_normal ?_ | refine HW_skip ?_ | refine hblkQ_normal ?_ | refine HW_block ?_); refine HW_reg (fun K hK => ?_); simp (maxSteps := 2000000) (disch := omega) only [push_cast, ↓Int.cast_ofNat_Int, Nat.reduceBEq, Nat.reduceAdd, Nat.reduceLT, Nat.reduceEqDiff, reduceIte, reduceCtorEq, Nat.reduceLeDiff, Nat.reduceSub, List.reduceReplicate, Nat.reduceMul, Int.reduceToNat, Int.toNat_natCast, Nat.reducePow, reduceIte]; refine hK _ ?_; clear hK K
      (repeat first | refine hseqQ_ret ?_ | refine hseqQ_exit ?_ | refine hblkQ_exit ?_ | refine hblkQ_other rfl ?_ | refine hblkQ_ret ?_ | refine hblkQ_normal ?_ | refine HW_seq ?_ | refine hseqQ_normal ?_ | refine HW_skip ?_ | refine HW_exit ?_ | refine HW_ret ?_)
      (repeat first | refine HW_seq ?_ | refine hseqQ_normal ?_ | refine HW_skip ?_ | refine hblkQ_normal ?_ | refine HW_block ?_); refine HW_reg (fun K hK => ?_); simp (maxSteps := 2000000) (disch := omega) only [push_cast, ↓Int.cast_ofNat_Int, Nat.reduceBEq, Nat.reduceAdd, Nat.reduceLT, Nat.reduceEqDiff, reduceIte, reduceCtorEq, Nat.reduceLeDiff, Nat.reduceSub, List.reduceReplicate, Nat.reduceMul, Int.reduceToNat, Int.toNat_natCast, Nat.reducePow, reduceIte]; refine hK _ ?_; clear hK K
      refine HW_true rfl ?_
      (repeat first | refine HW_seq ?_ | refine hseqQ_normal ?_ | refine HW_skip ?_ | refine hblkQ_normal ?_ | refine HW_block ?_); refine HW_reg (fun K hK => ?_); simp (maxSteps := 2000000) (disch := omega) only [push_cast, ↓Int.cast_ofNat_Int, Nat.reduceBEq, Nat.reduceAdd, Nat.reduceLT, Nat.reduceEqDiff, reduceIte, reduceCtorEq, Nat.reduceLeDiff, Nat.reduceSub, List.reduceReplicate, Nat.reduceMul, Int.reduceToNat, Int.toNat_natCast, Nat.reducePow, reduceIte]; refine hK _ ?_; clear hK K
      (repeat first | refine HW_seq ?_ | refine hseqQ_normal ?_ | refine HW_skip ?_ | refine hblkQ_normal ?_ | refine HW_block ?_); refine HW_reg (fun K hK => ?_); simp (maxSteps := 2000000) (disch := omega) only [push_cast, ↓Int.cast_ofNat_Int, Nat.reduceBEq, Nat.reduceAdd, Nat.reduceLT, Nat.reduceEqDiff, reduceIte, reduceCtorEq, Nat.reduceLeDiff, Nat.reduceSub, List.reduceReplicate, Nat.reduceMul, Int.reduceToNat, Int.toNat_natCast, Nat.reducePow, reduceIte]; refine hK _ ?_; clear hK K
      (repeat first | refine hseqQ_ret ?_ | refine hseqQ_exit ?_ | refine hblkQ_exit ?_ | refine hblkQ_other rfl ?_ | refine hblkQ_ret ?_ | refine hblkQ_normal ?_ | refine HW_seq ?_ | refine hseqQ_normal ?_ | refine HW_skip ?_ | refine HW_exit ?_ | refine HW_ret ?_)
      simp only [hrcvQ_normal, hrcvQ_ret, hfunQ_normal, hfunQ_ret, resH_nil, resH_cons, resH_cell, resC_go, htup_one, htup_two, hlk_nil, hlk_cons, Nat.reduceEqDiff, reduceIte, reduceCtorEq]
      exact hrcv_t (cells := rdr s i) (xs := [.string ⟨#[]⟩, .int .i64 2]) rfl rfl ⟨rfl, rfl⟩
    · rw [if_neg hx]
      (repeat first | refine HW_seq ?_ | refine hseqQ_normal ?_ | refine HW_skip ?_ | refine hblkQ_normal ?_ | refine HW_block ?_); refine HW_reg (fun K hK => ?_); simp (maxSteps := 2000000) (disch := omega) only [push_cast, ↓Int.cast_ofNat_Int, Nat.reduceBEq, Nat.reduceAdd, Nat.reduceLT, Nat.reduceEqDiff, reduceIte, reduceCtorEq, Nat.reduceLeDiff, Nat.reduceSub, List.reduceReplicate, Nat.reduceMul, Int.reduceToNat, Int.toNat_natCast, Nat.reducePow, reduceIte]
      refine hatP (args := []) cl29 rfl hl ?_
      rintro _ _ ⟨rfl, rfl⟩
      simp only [rdr, List.map_cons, List.map_nil]
      with_reducible refine hstop ?_; simp (maxSteps := 2000000) (disch := omega) only [push_cast, ↓Int.cast_ofNat_Int, Nat.reduceBEq, Nat.reduceAdd, Nat.reduceLT, Nat.reduceEqDiff, reduceIte, reduceCtorEq, Nat.reduceLeDiff, Nat.reduceSub, List.reduceReplicate, Nat.reduceMul, Int.reduceToNat, Int.toNat_natCast, Nat.reducePow, reduceIte]
      refine hK _ ?_; clear hK K
      refine HW_false rfl ?_
      (repeat first | refine HW_seq ?_ | refine hseqQ_normal ?_ | refine HW_skip ?_ | refine hblkQ_normal ?_ | refine HW_block ?_)
      (repeat first | refine HW_seq ?_ | refine hseqQ_normal ?_ | refine HW_skip ?_ | refine hblkQ_normal ?_ | refine HW_block ?_); refine HW_reg (fun K hK => ?_); simp (maxSteps := 2000000) (disch := omega) only [push_cast, ↓Int.cast_ofNat_Int, Nat.reduceBEq, Nat.reduceAdd, Nat.reduceLT, Nat.reduceEqDiff, reduceIte, reduceCtorEq, Nat.reduceLeDiff, Nat.reduceSub, List.reduceReplicate, Nat.reduceMul, Int.reduceToNat, Int.toNat_natCast, Nat.reducePow, reduceIte]; refine hK _ ?_; clear hK K
      refine HW_false rfl ?_
      (repeat first | refine HW_seq ?_ | refine hseqQ_normal ?_ | refine HW_skip ?_ | refine hblkQ_normal ?_ | refine HW_block ?_)
      (repeat first | refine HW_seq ?_ | refine hseqQ_normal ?_ | refine HW_skip ?_ | refine hblkQ_normal ?_ | refine HW_block ?_); refine HW_reg (fun K hK => ?_); simp (maxSteps := 2000000) (disch := omega) only [push_cast, ↓Int.cast_ofNat_Int, Nat.reduceBEq, Nat.reduceAdd, Nat.reduceLT, Nat.reduceEqDiff, reduceIte, reduceCtorEq, Nat.reduceLeDiff, Nat.reduceSub, List.reduceReplicate, Nat.reduceMul, Int.reduceToNat, Int.toNat_natCast, Nat.reducePow, reduceIte]; refine hK _ ?_; clear hK K
      have e9 : ((p : Int) + (x : Int) - (x : Int)).toNat = p := by omega
      (repeat first | refine HW_seq ?_ | refine hseqQ_normal ?_ | refine HW_skip ?_ | refine hblkQ_normal ?_ | refine HW_block ?_); refine HW_drw 17 mixed (by kernel_rfl) (fun K hK => ?_); simp (maxSteps := 2000000) (disch := omega) only [push_cast, ↓Int.cast_ofNat_Int, Nat.reduceBEq, Nat.reduceAdd, Nat.reduceLT, Nat.reduceEqDiff, reduceIte, reduceCtorEq, Nat.reduceLeDiff, Nat.reduceSub, List.reduceReplicate, Nat.reduceMul, Int.reduceToNat, Int.toNat_natCast, Nat.reducePow, reduceIte, e9]
      refine ⟨⟨by omega, by omega, by omega⟩, ?_⟩
      with_reducible refine hstop ?_; simp (maxSteps := 2000000) (disch := omega) only [push_cast, ↓Int.cast_ofNat_Int, Nat.reduceBEq, Nat.reduceAdd, Nat.reduceLT, Nat.reduceEqDiff, reduceIte, reduceCtorEq, Nat.reduceLeDiff, Nat.reduceSub, List.reduceReplicate, Nat.reduceMul, Int.reduceToNat, Int.toNat_natCast, Nat.reducePow, reduceIte]
      refine hK _ ?_; clear hK K
      (repeat first | refine hseqQ_ret ?_ | refine hseqQ_exit ?_ | refine hblkQ_exit ?_ | refine hblkQ_other rfl ?_ | refine hblkQ_ret ?_ | refine hblkQ_normal ?_ | refine HW_seq ?_ | refine hseqQ_normal ?_ | refine HW_skip ?_ | refine HW_exit ?_ | refine HW_ret ?_)
      simp only [hrcvQ_normal, hrcvQ_ret, hfunQ_normal, hfunQ_ret, resH_nil, resH_cons, resH_cell, resC_go, htup_one, htup_two, hlk_nil, hlk_cons, Nat.reduceEqDiff, reduceIte, reduceCtorEq]
      exact hrcv_t (cells := rdr s (p + x)) (xs := [.string (s.extract p (p + x)), .int .i64 0]) rfl rfl ⟨rfl, rfl⟩
  · obtain rfl := hne he
    rw [if_pos he]
    (repeat first | refine HW_seq ?_ | refine hseqQ_normal ?_ | refine HW_skip ?_ | refine hblkQ_normal ?_ | refine HW_block ?_); refine HW_reg (fun K hK => ?_); simp (maxSteps := 2000000) (disch := omega) only [push_cast, ↓Int.cast_ofNat_Int, Nat.reduceBEq, Nat.reduceAdd, Nat.reduceLT, Nat.reduceEqDiff, reduceIte, reduceCtorEq, Nat.reduceLeDiff, Nat.reduceSub, List.reduceReplicate, Nat.reduceMul, Int.reduceToNat, Int.toNat_natCast, Nat.reducePow, reduceIte]; refine hK _ ?_; clear hK K
    refine HW_false rfl ?_
    (repeat first | refine HW_seq ?_ | refine hseqQ_normal ?_ | refine HW_skip ?_ | refine hblkQ_normal ?_ | refine HW_block ?_)
    (repeat first | refine HW_seq ?_ | refine hseqQ_normal ?_ | refine HW_skip ?_ | refine hblkQ_normal ?_ | refine HW_block ?_); refine HW_reg (fun K hK => ?_); simp (maxSteps := 2000000) (disch := omega) only [push_cast, ↓Int.cast_ofNat_Int, Nat.reduceBEq, Nat.reduceAdd, Nat.reduceLT, Nat.reduceEqDiff, reduceIte, reduceCtorEq, Nat.reduceLeDiff, Nat.reduceSub, List.reduceReplicate, Nat.reduceMul, Int.reduceToNat, Int.toNat_natCast, Nat.reducePow, reduceIte]; refine hK _ ?_; clear hK K
    refine HW_true rfl ?_
    (repeat first | refine HW_seq ?_ | refine hseqQ_normal ?_ | refine HW_skip ?_ | refine hblkQ_normal ?_ | refine HW_block ?_); refine HW_reg (fun K hK => ?_); simp (maxSteps := 2000000) (disch := omega) only [push_cast, ↓Int.cast_ofNat_Int, Nat.reduceBEq, Nat.reduceAdd, Nat.reduceLT, Nat.reduceEqDiff, reduceIte, reduceCtorEq, Nat.reduceLeDiff, Nat.reduceSub, List.reduceReplicate, Nat.reduceMul, Int.reduceToNat, Int.toNat_natCast, Nat.reducePow, reduceIte]; refine hK _ ?_; clear hK K
    (repeat first | refine HW_seq ?_ | refine hseqQ_normal ?_ | refine HW_skip ?_ | refine hblkQ_normal ?_ | refine HW_block ?_); refine HW_reg (fun K hK => ?_); simp (maxSteps := 2000000) (disch := omega) only [push_cast, ↓Int.cast_ofNat_Int, Nat.reduceBEq, Nat.reduceAdd, Nat.reduceLT, Nat.reduceEqDiff, reduceIte, reduceCtorEq, Nat.reduceLeDiff, Nat.reduceSub, List.reduceReplicate, Nat.reduceMul, Int.reduceToNat, Int.toNat_natCast, Nat.reducePow, reduceIte]; refine hK _ ?_; clear hK K
    (repeat first | refine hseqQ_ret ?_ | refine hseqQ_exit ?_ | refine hblkQ_exit ?_ | refine hblkQ_other rfl ?_ | refine hblkQ_ret ?_ | refine hblkQ_normal ?_ | refine HW_seq ?_ | refine hseqQ_normal ?_ | refine HW_skip ?_ | refine HW_exit ?_ | refine HW_ret ?_)
    simp only [hrcvQ_normal, hrcvQ_ret, hfunQ_normal, hfunQ_ret, resH_nil, resH_cons, resH_cell, resC_go, htup_one, htup_two, hlk_nil, hlk_cons, Nat.reduceEqDiff, reduceIte, reduceCtorEq]
    exact hrcv_t (cells := rdr s p) (xs := [.string ⟨#[]⟩, .int .i64 e]) rfl rfl ⟨rfl, rfl⟩
end Go.Proofs.Ytppnicpbncfhnaa
