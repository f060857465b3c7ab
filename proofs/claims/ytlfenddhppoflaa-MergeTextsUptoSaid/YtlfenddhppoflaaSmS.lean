/- What the walk of the law stands on. -/
import Derived.Test.YtlfenddhppoflaaKept
set_option linter.unusedSimpArgs false
set_option linter.unusedVariables false
set_option maxRecDepth 20000
namespace Go.Proofs.Ytlfenddhppoflaa
open Go Go.Eng Go.RowKit Go.DiffM

theorem take_all {α : Type} {a b : List α} {i : Nat} (h : a.take i = b.take i) (h1 : a.length ≤ i) (h2 : b.length ≤ i) : a = b := by
 rw [List.take_of_length_le h1, List.take_of_length_le h2] at h; exact h
theorem take_next {α : Type} {a b : List α} {i : Nat} (h : a.take i = b.take i) (h1 : i < a.length) (h2 : i < b.length) (he : a[i] = b[i]) : a.take (i + 1) = b.take (i + 1) := by
 rw [List.take_succ_eq_append_getElem h1, List.take_succ_eq_append_getElem h2, h, he]
set_option maxHeartbeats 1000000 in
theorem same_H (a b : List ByteArray) : HFun Try.prog 23 [.lst false (strs a), .lst false (strs b)] (fun h st => h = .v (.bool (decide (a = b)))) := by
 refine hfun (N := 26) Try.func23 rfl Try.ntmps23 Try.results23 (by simp) ?_
 refine HW_le 0 rfl (fun hA => ?_)
 rw [strs_len] at hA
 (repeat first | refine qE ?_ | refine qA ?_ | refine qC ?_ | refine qB ?_ | refine qD ?_); refine qJ (fun K hK => ?_); simp (maxSteps := 2000000) (disch := omega) only [push_cast, ↓Int.cast_ofNat_Int, Nat.reduceBEq, Nat.reduceAdd, Nat.reduceLT, Nat.reduceEqDiff, reduceIte, reduceCtorEq, Nat.reduceLeDiff, Nat.reduceSub, List.reduceReplicate, Nat.reduceMul, Int.reduceToNat, Nat.reducePow]; refine hK _ ?_; clear hK K
 by_cases hl : a.length = b.length
 ·(repeat first | refine qE ?_ | refine qA ?_ | refine qC ?_ | refine qB ?_ | refine qD ?_); refine qJ (fun K hK => ?_); simp (maxSteps := 2000000) (disch := omega) only [push_cast, ↓Int.cast_ofNat_Int, Nat.reduceBEq, Nat.reduceAdd, Nat.reduceLT, Nat.reduceEqDiff, reduceIte, reduceCtorEq, Nat.reduceLeDiff, Nat.reduceSub, List.reduceReplicate, Nat.reduceMul, Int.reduceToNat, Nat.reducePow, strs_len]; refine hK _ ?_; clear hK K
  (repeat first | refine qE ?_ | refine qA ?_ | refine qC ?_ | refine qB ?_ | refine qD ?_)
  refine zC rfl ?_
  (repeat first | refine qE ?_ | refine qA ?_ | refine qC ?_ | refine qB ?_ | refine qD ?_); refine qJ (fun K hK => ?_); simp (maxSteps := 2000000) (disch := omega) only [push_cast, ↓Int.cast_ofNat_Int, Nat.reduceBEq, Nat.reduceAdd, Nat.reduceLT, Nat.reduceEqDiff, reduceIte, reduceCtorEq, Nat.reduceLeDiff, Nat.reduceSub, List.reduceReplicate, Nat.reduceMul, Int.reduceToNat, Nat.reducePow]; refine hK _ ?_; clear hK K
  (repeat first | refine qE ?_ | refine qA ?_ | refine qC ?_ | refine qB ?_ | refine qD ?_)
  refine HW_loop (fun i : Nat => ⟨[(0, .lst false (strs a)), (1, .lst false (strs b)), (5, .v (.int .i64 i))], []⟩) (fun i => i ≤ a.length ∧ a.take i = b.take i) (fun i => a.length - i) [0, 1, 5] [] 0 rfl ⟨Nat.zero_le _, rfl⟩ ?_
  rintro i ⟨hi, hp⟩
  (repeat first | refine qE ?_ | refine qA ?_ | refine qC ?_ | refine qB ?_ | refine qD ?_); refine qJ (fun K hK => ?_); simp (maxSteps := 2000000) (disch := omega) only [push_cast, ↓Int.cast_ofNat_Int, Nat.reduceBEq, Nat.reduceAdd, Nat.reduceLT, Nat.reduceEqDiff, reduceIte, reduceCtorEq, Nat.reduceLeDiff, Nat.reduceSub, List.reduceReplicate, Nat.reduceMul, Int.reduceToNat, Nat.reducePow, strs_len]; refine hK _ ?_; clear hK K
  (repeat first | refine qE ?_ | refine qA ?_ | refine qC ?_ | refine qB ?_ | refine qD ?_)
  refine HW_cond rfl (fun hlt => ?_) (fun hge => ?_)
  ·have hia : i < a.length := by simpa using hlt
   have hib : i < b.length := by omega
   by_cases he : a[i] = b[i]
   ·have he' : decide (a[i] = b[i]) = true := decide_eq_true he
    (repeat first | refine qE ?_ | refine qA ?_ | refine qC ?_ | refine qB ?_ | refine qD ?_); refine HW_drw 9 mixed (by kernel_rfl) (fun K hK => ?_); simp (maxSteps := 2000000) (disch := omega) only [push_cast, ↓Int.cast_ofNat_Int, Nat.reduceBEq, Nat.reduceAdd, Nat.reduceLT, Nat.reduceEqDiff, reduceIte, reduceCtorEq, Nat.reduceLeDiff, Nat.reduceSub, List.reduceReplicate, Nat.reduceMul, Int.reduceToNat, Nat.reducePow, strs_len, strs_wid, strs_get, he']
    with_reducible refine hstop ?_; simp (maxSteps := 2000000) (disch := omega) only [push_cast, ↓Int.cast_ofNat_Int, Nat.reduceBEq, Nat.reduceAdd, Nat.reduceLT, Nat.reduceEqDiff, reduceIte, reduceCtorEq, Nat.reduceLeDiff, Nat.reduceSub, List.reduceReplicate, Nat.reduceMul, Int.reduceToNat, Nat.reducePow]
    refine hK _ ?_; clear hK K
    (repeat first | refine qE ?_ | refine qA ?_ | refine qC ?_ | refine qB ?_ | refine qD ?_)
    refine zC rfl ?_
    (repeat first | refine qK ?_ | refine qG ?_ | refine qH ?_ | refine qF rfl ?_ | refine qL ?_ | refine qB ?_ | refine qE ?_ | refine qA ?_ | refine qC ?_ | refine qT ?_ | refine qW ?_)
    (repeat first | refine qE ?_ | refine qA ?_ | refine qC ?_ | refine qB ?_ | refine qD ?_); refine qJ (fun K hK => ?_); simp (maxSteps := 2000000) (disch := omega) only [push_cast, ↓Int.cast_ofNat_Int, Nat.reduceBEq, Nat.reduceAdd, Nat.reduceLT, Nat.reduceEqDiff, reduceIte, reduceCtorEq, Nat.reduceLeDiff, Nat.reduceSub, List.reduceReplicate, Nat.reduceMul, Int.reduceToNat, Nat.reducePow]; refine hK _ ?_; clear hK K
    exact qA ⟨i + 1, rfl, ⟨hia, take_next hp hia hib he⟩, by omega⟩
   ·have he' : decide (a[i] = b[i]) = false := decide_eq_false he
    (repeat first | refine qE ?_ | refine qA ?_ | refine qC ?_ | refine qB ?_ | refine qD ?_); refine HW_drw 9 mixed (by kernel_rfl) (fun K hK => ?_); simp (maxSteps := 2000000) (disch := omega) only [push_cast, ↓Int.cast_ofNat_Int, Nat.reduceBEq, Nat.reduceAdd, Nat.reduceLT, Nat.reduceEqDiff, reduceIte, reduceCtorEq, Nat.reduceLeDiff, Nat.reduceSub, List.reduceReplicate, Nat.reduceMul, Int.reduceToNat, Nat.reducePow, strs_len, strs_wid, strs_get, he']
    with_reducible refine hstop ?_; simp (maxSteps := 2000000) (disch := omega) only [push_cast, ↓Int.cast_ofNat_Int, Nat.reduceBEq, Nat.reduceAdd, Nat.reduceLT, Nat.reduceEqDiff, reduceIte, reduceCtorEq, Nat.reduceLeDiff, Nat.reduceSub, List.reduceReplicate, Nat.reduceMul, Int.reduceToNat, Nat.reducePow]
    refine hK _ ?_; clear hK K
    (repeat first | refine qE ?_ | refine qA ?_ | refine qC ?_ | refine qB ?_ | refine qD ?_)
    refine zD rfl ?_
    (repeat first | refine qE ?_ | refine qA ?_ | refine qC ?_ | refine qB ?_ | refine qD ?_); refine qJ (fun K hK => ?_); simp (maxSteps := 2000000) (disch := omega) only [push_cast, ↓Int.cast_ofNat_Int, Nat.reduceBEq, Nat.reduceAdd, Nat.reduceLT, Nat.reduceEqDiff, reduceIte, reduceCtorEq, Nat.reduceLeDiff, Nat.reduceSub, List.reduceReplicate, Nat.reduceMul, Int.reduceToNat, Nat.reducePow]; refine hK _ ?_; clear hK K
    (repeat first | refine qK ?_ | refine qG ?_ | refine qH ?_ | refine qF rfl ?_ | refine qL ?_ | refine qB ?_ | refine qE ?_ | refine qA ?_ | refine qC ?_ | refine qT ?_ | refine qW ?_)
    simp only [zA, zM, zH, zE, zK, zJ, qS, qM, Nat.reduceEqDiff, reduceIte, reduceCtorEq]
    refine hres_v ?_
    rw [decide_eq_false (fun e => he (by subst e; rfl))]
  ·have hge' : a.length ≤ i := by simpa using hge
   (repeat first | refine qK ?_ | refine qG ?_ | refine qH ?_ | refine qF rfl ?_ | refine qL ?_ | refine qB ?_ | refine qE ?_ | refine qA ?_ | refine qC ?_ | refine qT ?_ | refine qW ?_)
   (repeat first | refine qE ?_ | refine qA ?_ | refine qC ?_ | refine qB ?_ | refine qD ?_); refine qJ (fun K hK => ?_); simp (maxSteps := 2000000) (disch := omega) only [push_cast, ↓Int.cast_ofNat_Int, Nat.reduceBEq, Nat.reduceAdd, Nat.reduceLT, Nat.reduceEqDiff, reduceIte, reduceCtorEq, Nat.reduceLeDiff, Nat.reduceSub, List.reduceReplicate, Nat.reduceMul, Int.reduceToNat, Nat.reducePow]; refine hK _ ?_; clear hK K
   (repeat first | refine qK ?_ | refine qG ?_ | refine qH ?_ | refine qF rfl ?_ | refine qL ?_ | refine qB ?_ | refine qE ?_ | refine qA ?_ | refine qC ?_ | refine qT ?_ | refine qW ?_)
   simp only [zA, zM, zH, zE, zK, zJ, qS, qM, Nat.reduceEqDiff, reduceIte, reduceCtorEq]
   refine hres_v ?_
   rw [decide_eq_true (take_all hp hge' (by omega))]
 ·(repeat first | refine qE ?_ | refine qA ?_ | refine qC ?_ | refine qB ?_ | refine qD ?_); refine qJ (fun K hK => ?_); simp (maxSteps := 2000000) (disch := omega) only [push_cast, ↓Int.cast_ofNat_Int, Nat.reduceBEq, Nat.reduceAdd, Nat.reduceLT, Nat.reduceEqDiff, reduceIte, reduceCtorEq, Nat.reduceLeDiff, Nat.reduceSub, List.reduceReplicate, Nat.reduceMul, Int.reduceToNat, Nat.reducePow, strs_len]; refine hK _ ?_; clear hK K
  (repeat first | refine qE ?_ | refine qA ?_ | refine qC ?_ | refine qB ?_ | refine qD ?_)
  refine zD rfl ?_
  (repeat first | refine qE ?_ | refine qA ?_ | refine qC ?_ | refine qB ?_ | refine qD ?_); refine qJ (fun K hK => ?_); simp (maxSteps := 2000000) (disch := omega) only [push_cast, ↓Int.cast_ofNat_Int, Nat.reduceBEq, Nat.reduceAdd, Nat.reduceLT, Nat.reduceEqDiff, reduceIte, reduceCtorEq, Nat.reduceLeDiff, Nat.reduceSub, List.reduceReplicate, Nat.reduceMul, Int.reduceToNat, Nat.reducePow]; refine hK _ ?_; clear hK K
  (repeat first | refine qK ?_ | refine qG ?_ | refine qH ?_ | refine qF rfl ?_ | refine qL ?_ | refine qB ?_ | refine qE ?_ | refine qA ?_ | refine qC ?_ | refine qT ?_ | refine qW ?_)
  simp only [zA, zM, zH, zE, zK, zJ, qS, qM, Nat.reduceEqDiff, reduceIte, reduceCtorEq]
  refine hres_v ?_
  rw [decide_eq_false (fun e => hl (by rw [e]))]
end Go.Proofs.Ytlfenddhppoflaa
