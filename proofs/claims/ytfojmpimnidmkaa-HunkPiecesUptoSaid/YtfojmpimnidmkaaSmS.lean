/-
  Are two lists of texts alike? The reference's comparison, walked.
-/
import Derived.Test.YtfojmpimnidmkaaKept
set_option linter.unusedSimpArgs false
set_option linter.unusedVariables false
set_option maxRecDepth 20000
namespace Go.Proofs.Ytfojmpimnidmkaa
open Go Go.Eng Go.RowKit Go.DiffM

theorem take_allS {α : Type} {a b : List α} {i : Nat} (h : a.take i = b.take i) (h1 : a.length ≤ i) (h2 : b.length ≤ i) : a = b := by
 rw [List.take_of_length_le h1, List.take_of_length_le h2] at h; exact h
theorem take_nextS {α : Type} {a b : List α} {i : Nat} (h : a.take i = b.take i) (h1 : i < a.length) (h2 : i < b.length) (he : a[i] = b[i]) : a.take (i + 1) = b.take (i + 1) := by
 rw [List.take_succ_eq_append_getElem h1, List.take_succ_eq_append_getElem h2, h, he]
set_option maxHeartbeats 1000000 in
theorem same_H (a b : List ByteArray) : HFun Try.prog 8 [.lst false (strs a), .lst false (strs b)] (fun h st => h = .v (.bool (decide (a = b)))) := by
 refine hfun (N := 26) Try.func8 rfl Try.ntmps8 Try.results8 (by simp) ?_
 refine HW_le 0 rfl (fun hA => ?_)
 rw [strs_len] at hA
 (repeat first | refine zE ?_ | refine zA ?_ | refine zC ?_ | refine zB ?_ | refine zD ?_); refine zJ (fun K hK => ?_); simp (maxSteps := 2000000) (disch := omega) only [push_cast, ↓Int.cast_ofNat_Int, Nat.reduceBEq, Nat.reduceAdd, Nat.reduceLT, Nat.reduceEqDiff, reduceIte, reduceCtorEq, Nat.reduceLeDiff, Nat.reduceSub, List.reduceReplicate, Nat.reduceMul, Int.reduceToNat, Int.toNat_natCast, Nat.reducePow, reduceIte]; refine hK _ ?_; clear hK K
 by_cases hl : a.length = b.length
 ·(repeat first | refine zE ?_ | refine zA ?_ | refine zC ?_ | refine zB ?_ | refine zD ?_); refine zJ (fun K hK => ?_); simp (maxSteps := 2000000) (disch := omega) only [push_cast, ↓Int.cast_ofNat_Int, Nat.reduceBEq, Nat.reduceAdd, Nat.reduceLT, Nat.reduceEqDiff, reduceIte, reduceCtorEq, Nat.reduceLeDiff, Nat.reduceSub, List.reduceReplicate, Nat.reduceMul, Int.reduceToNat, Int.toNat_natCast, Nat.reducePow, reduceIte, strs_len]; refine hK _ ?_; clear hK K
  (repeat first | refine zE ?_ | refine zA ?_ | refine zC ?_ | refine zB ?_ | refine zD ?_)
  refine yC rfl ?_
  (repeat first | refine zE ?_ | refine zA ?_ | refine zC ?_ | refine zB ?_ | refine zD ?_); refine zJ (fun K hK => ?_); simp (maxSteps := 2000000) (disch := omega) only [push_cast, ↓Int.cast_ofNat_Int, Nat.reduceBEq, Nat.reduceAdd, Nat.reduceLT, Nat.reduceEqDiff, reduceIte, reduceCtorEq, Nat.reduceLeDiff, Nat.reduceSub, List.reduceReplicate, Nat.reduceMul, Int.reduceToNat, Int.toNat_natCast, Nat.reducePow, reduceIte]; refine hK _ ?_; clear hK K
  (repeat first | refine zE ?_ | refine zA ?_ | refine zC ?_ | refine zB ?_ | refine zD ?_)
  refine HW_loop (fun i : Nat => ⟨[(0, .lst false (strs a)), (1, .lst false (strs b)), (5, .v (.int .i64 i))], []⟩) (fun i => i ≤ a.length ∧ a.take i = b.take i) (fun i => a.length - i) [0, 1, 5] [] 0 rfl ⟨Nat.zero_le _, rfl⟩ ?_
  rintro i ⟨hi, hp⟩
  (repeat first | refine zE ?_ | refine zA ?_ | refine zC ?_ | refine zB ?_ | refine zD ?_); refine zJ (fun K hK => ?_); simp (maxSteps := 2000000) (disch := omega) only [push_cast, ↓Int.cast_ofNat_Int, Nat.reduceBEq, Nat.reduceAdd, Nat.reduceLT, Nat.reduceEqDiff, reduceIte, reduceCtorEq, Nat.reduceLeDiff, Nat.reduceSub, List.reduceReplicate, Nat.reduceMul, Int.reduceToNat, Int.toNat_natCast, Nat.reducePow, reduceIte, strs_len]; refine hK _ ?_; clear hK K
  (repeat first | refine zE ?_ | refine zA ?_ | refine zC ?_ | refine zB ?_ | refine zD ?_)
  refine HW_cond rfl (fun hlt => ?_) (fun hge => ?_)
  ·have hia : i < a.length := by simpa using hlt
   have hib : i < b.length := by omega
   by_cases he : a[i] = b[i]
   ·have he' : decide (a[i] = b[i]) = true := decide_eq_true he
    (repeat first | refine zE ?_ | refine zA ?_ | refine zC ?_ | refine zB ?_ | refine zD ?_); refine HW_drw 9 mixed (by kernel_rfl) (fun K hK => ?_); simp (maxSteps := 2000000) (disch := omega) only [push_cast, ↓Int.cast_ofNat_Int, Nat.reduceBEq, Nat.reduceAdd, Nat.reduceLT, Nat.reduceEqDiff, reduceIte, reduceCtorEq, Nat.reduceLeDiff, Nat.reduceSub, List.reduceReplicate, Nat.reduceMul, Int.reduceToNat, Int.toNat_natCast, Nat.reducePow, reduceIte, strs_len, strs_wid, strs_get, he']
    with_reducible refine hstop ?_; simp (maxSteps := 2000000) (disch := omega) only [push_cast, ↓Int.cast_ofNat_Int, Nat.reduceBEq, Nat.reduceAdd, Nat.reduceLT, Nat.reduceEqDiff, reduceIte, reduceCtorEq, Nat.reduceLeDiff, Nat.reduceSub, List.reduceReplicate, Nat.reduceMul, Int.reduceToNat, Int.toNat_natCast, Nat.reducePow, reduceIte]
    refine hK _ ?_; clear hK K
    (repeat first | refine zE ?_ | refine zA ?_ | refine zC ?_ | refine zB ?_ | refine zD ?_)
    refine yC rfl ?_
    (repeat first | refine zK ?_ | refine zG ?_ | refine zH ?_ | refine zF rfl ?_ | refine zL ?_ | refine zB ?_ | refine zE ?_ | refine zA ?_ | refine zC ?_ | refine zT ?_ | refine zW ?_)
    (repeat first | refine zE ?_ | refine zA ?_ | refine zC ?_ | refine zB ?_ | refine zD ?_); refine zJ (fun K hK => ?_); simp (maxSteps := 2000000) (disch := omega) only [push_cast, ↓Int.cast_ofNat_Int, Nat.reduceBEq, Nat.reduceAdd, Nat.reduceLT, Nat.reduceEqDiff, reduceIte, reduceCtorEq, Nat.reduceLeDiff, Nat.reduceSub, List.reduceReplicate, Nat.reduceMul, Int.reduceToNat, Int.toNat_natCast, Nat.reducePow, reduceIte]; refine hK _ ?_; clear hK K
    exact zA ⟨i + 1, rfl, ⟨hia, take_nextS hp hia hib he⟩, by omega⟩
   ·have he' : decide (a[i] = b[i]) = false := decide_eq_false he
    (repeat first | refine zE ?_ | refine zA ?_ | refine zC ?_ | refine zB ?_ | refine zD ?_); refine HW_drw 9 mixed (by kernel_rfl) (fun K hK => ?_); simp (maxSteps := 2000000) (disch := omega) only [push_cast, ↓Int.cast_ofNat_Int, Nat.reduceBEq, Nat.reduceAdd, Nat.reduceLT, Nat.reduceEqDiff, reduceIte, reduceCtorEq, Nat.reduceLeDiff, Nat.reduceSub, List.reduceReplicate, Nat.reduceMul, Int.reduceToNat, Int.toNat_natCast, Nat.reducePow, reduceIte, strs_len, strs_wid, strs_get, he']
    with_reducible refine hstop ?_; simp (maxSteps := 2000000) (disch := omega) only [push_cast, ↓Int.cast_ofNat_Int, Nat.reduceBEq, Nat.reduceAdd, Nat.reduceLT, Nat.reduceEqDiff, reduceIte, reduceCtorEq, Nat.reduceLeDiff, Nat.reduceSub, List.reduceReplicate, Nat.reduceMul, Int.reduceToNat, Int.toNat_natCast, Nat.reducePow, reduceIte]
    refine hK _ ?_; clear hK K
    (repeat first | refine zE ?_ | refine zA ?_ | refine zC ?_ | refine zB ?_ | refine zD ?_)
    refine yD rfl ?_
    (repeat first | refine zE ?_ | refine zA ?_ | refine zC ?_ | refine zB ?_ | refine zD ?_); refine zJ (fun K hK => ?_); simp (maxSteps := 2000000) (disch := omega) only [push_cast, ↓Int.cast_ofNat_Int, Nat.reduceBEq, Nat.reduceAdd, Nat.reduceLT, Nat.reduceEqDiff, reduceIte, reduceCtorEq, Nat.reduceLeDiff, Nat.reduceSub, List.reduceReplicate, Nat.reduceMul, Int.reduceToNat, Int.toNat_natCast, Nat.reducePow, reduceIte]; refine hK _ ?_; clear hK K
    (repeat first | refine zK ?_ | refine zG ?_ | refine zH ?_ | refine zF rfl ?_ | refine zL ?_ | refine zB ?_ | refine zE ?_ | refine zA ?_ | refine zC ?_ | refine zT ?_ | refine zW ?_)
    simp only [yA, yM, yH, yE, resH_cell, resC_go, yK, yJ, zS, zM, Nat.reduceEqDiff, reduceIte, reduceCtorEq]
    refine hres_v ?_
    rw [decide_eq_false (fun e => he (by subst e; rfl))]
  ·have hge' : a.length ≤ i := by simpa using hge
   (repeat first | refine zK ?_ | refine zG ?_ | refine zH ?_ | refine zF rfl ?_ | refine zL ?_ | refine zB ?_ | refine zE ?_ | refine zA ?_ | refine zC ?_ | refine zT ?_ | refine zW ?_)
   (repeat first | refine zE ?_ | refine zA ?_ | refine zC ?_ | refine zB ?_ | refine zD ?_); refine zJ (fun K hK => ?_); simp (maxSteps := 2000000) (disch := omega) only [push_cast, ↓Int.cast_ofNat_Int, Nat.reduceBEq, Nat.reduceAdd, Nat.reduceLT, Nat.reduceEqDiff, reduceIte, reduceCtorEq, Nat.reduceLeDiff, Nat.reduceSub, List.reduceReplicate, Nat.reduceMul, Int.reduceToNat, Int.toNat_natCast, Nat.reducePow, reduceIte]; refine hK _ ?_; clear hK K
   (repeat first | refine zK ?_ | refine zG ?_ | refine zH ?_ | refine zF rfl ?_ | refine zL ?_ | refine zB ?_ | refine zE ?_ | refine zA ?_ | refine zC ?_ | refine zT ?_ | refine zW ?_)
   simp only [yA, yM, yH, yE, resH_cell, resC_go, yK, yJ, zS, zM, Nat.reduceEqDiff, reduceIte, reduceCtorEq]
   refine hres_v ?_
   rw [decide_eq_true (take_allS hp hge' (by omega))]
 ·(repeat first | refine zE ?_ | refine zA ?_ | refine zC ?_ | refine zB ?_ | refine zD ?_); refine zJ (fun K hK => ?_); simp (maxSteps := 2000000) (disch := omega) only [push_cast, ↓Int.cast_ofNat_Int, Nat.reduceBEq, Nat.reduceAdd, Nat.reduceLT, Nat.reduceEqDiff, reduceIte, reduceCtorEq, Nat.reduceLeDiff, Nat.reduceSub, List.reduceReplicate, Nat.reduceMul, Int.reduceToNat, Int.toNat_natCast, Nat.reducePow, reduceIte, strs_len]; refine hK _ ?_; clear hK K
  (repeat first | refine zE ?_ | refine zA ?_ | refine zC ?_ | refine zB ?_ | refine zD ?_)
  refine yD rfl ?_
  (repeat first | refine zE ?_ | refine zA ?_ | refine zC ?_ | refine zB ?_ | refine zD ?_); refine zJ (fun K hK => ?_); simp (maxSteps := 2000000) (disch := omega) only [push_cast, ↓Int.cast_ofNat_Int, Nat.reduceBEq, Nat.reduceAdd, Nat.reduceLT, Nat.reduceEqDiff, reduceIte, reduceCtorEq, Nat.reduceLeDiff, Nat.reduceSub, List.reduceReplicate, Nat.reduceMul, Int.reduceToNat, Int.toNat_natCast, Nat.reducePow, reduceIte]; refine hK _ ?_; clear hK K
  (repeat first | refine zK ?_ | refine zG ?_ | refine zH ?_ | refine zF rfl ?_ | refine zL ?_ | refine zB ?_ | refine zE ?_ | refine zA ?_ | refine zC ?_ | refine zT ?_ | refine zW ?_)
  simp only [yA, yM, yH, yE, resH_cell, resC_go, yK, yJ, zS, zM, Nat.reduceEqDiff, reduceIte, reduceCtorEq]
  refine hres_v ?_
  rw [decide_eq_false (fun e => hl (by rw [e]))]
end Go.Proofs.Ytfojmpimnidmkaa
