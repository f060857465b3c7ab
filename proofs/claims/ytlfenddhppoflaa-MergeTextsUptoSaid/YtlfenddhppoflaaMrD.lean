/- What the walk of the law stands on. -/
import Derived.Test.YtlfenddhppoflaaMrC
import Derived.Test.YtlfenddhppoflaaMgG
import Derived.Test.YtlfenddhppoflaaSmS
set_option linter.unusedSimpArgs false
set_option linter.unusedVariables false
set_option maxRecDepth 20000
namespace Go.Proofs.Ytlfenddhppoflaa
open Go Go.Eng Go.RowKit Go.DiffM


def mrS (cs : List (Ck ByteArray)) (n : Nat) : HS := ⟨[(9, .own 152), (11, .v (.string (mgT (cs.take n)))), (12, .v (.int .i64 (mgN (cs.take n)))), (13, .v (.int .i64 n))], [(152, .sl true 77 4 (cks cs))]⟩
set_option maxHeartbeats 8000000 in
theorem refMerge_H (x y z : ByteArray) (hx : x.size ≤ 1073741824) (hy : y.size ≤ 1073741824) (hz : z.size ≤ 1073741824) : HFun Try.prog 52 [.v (.string x), .v (.string y), .v (.string z)] (fun h st =>
  h = .tup [.v (.string (mgTx x y z)), .v (.int .i64 (mgNn x y z)), .v (.int .i64 (mgErr x y z))]) := by
 refine hfun (N := 84) Try.func52 rfl Try.ntmps52 Try.results52 (by simp) ?_
 (repeat first | refine qE ?_ | refine qA ?_ | refine qC ?_ | refine qB ?_ | refine qD ?_); refine qJ (fun K hK => ?_); simp (maxSteps := 2000000) (disch := omega) only [push_cast, ↓Int.cast_ofNat_Int, Nat.reduceBEq, Nat.reduceAdd, Nat.reduceLT, Nat.reduceEqDiff, reduceIte, reduceCtorEq, Nat.reduceLeDiff, Nat.reduceSub, List.reduceReplicate, Nat.reduceMul, Int.reduceToNat, Nat.reducePow]; refine hK _ ?_; clear hK K
 (repeat first | refine qE ?_ | refine qA ?_ | refine qC ?_ | refine qB ?_ | refine qD ?_); refine qJ (fun K hK => ?_); simp (maxSteps := 2000000) (disch := omega) only [push_cast, ↓Int.cast_ofNat_Int, Nat.reduceBEq, Nat.reduceAdd, Nat.reduceLT, Nat.reduceEqDiff, reduceIte, reduceCtorEq, Nat.reduceLeDiff, Nat.reduceSub, List.reduceReplicate, Nat.reduceMul, Int.reduceToNat, Nat.reducePow]
 refine hat 152 cl48 (refChunks_H x y z (by omega) (by omega) (by omega)) (.cons (.v _) (.cons (.v _) (.cons (.v _) .nil))) ?_
 rintro _ _ (⟨he, rfl, rfl⟩ | ⟨t0, t1, t2, rfl, rfl⟩)
 ·have e1 : mgTx x y z = { data := #[] } := by rw [mgTx, if_pos he]
  have e2 : mgNn x y z = 0 := by rw [mgNn, if_pos he]
  with_reducible refine hstop ?_; simp (maxSteps := 2000000) (disch := omega) only [push_cast, ↓Int.cast_ofNat_Int, Nat.reduceBEq, Nat.reduceAdd, Nat.reduceLT, Nat.reduceEqDiff, reduceIte, reduceCtorEq, Nat.reduceLeDiff, Nat.reduceSub, List.reduceReplicate, Nat.reduceMul, Int.reduceToNat, Nat.reducePow]
  refine hK _ ?_; clear hK K
  (repeat first | refine qE ?_ | refine qA ?_ | refine qC ?_ | refine qB ?_ | refine qD ?_); refine qJ (fun K hK => ?_); simp (maxSteps := 2000000) (disch := omega) only [push_cast, ↓Int.cast_ofNat_Int, Nat.reduceBEq, Nat.reduceAdd, Nat.reduceLT, Nat.reduceEqDiff, reduceIte, reduceCtorEq, Nat.reduceLeDiff, Nat.reduceSub, List.reduceReplicate, Nat.reduceMul, Int.reduceToNat, Nat.reducePow]; refine hK _ ?_; clear hK K
  (repeat first | refine qE ?_ | refine qA ?_ | refine qC ?_ | refine qB ?_ | refine qD ?_)
  refine zD rfl ?_
  (repeat first | refine qE ?_ | refine qA ?_ | refine qC ?_ | refine qB ?_ | refine qD ?_); refine qJ (fun K hK => ?_); simp (maxSteps := 2000000) (disch := omega) only [push_cast, ↓Int.cast_ofNat_Int, Nat.reduceBEq, Nat.reduceAdd, Nat.reduceLT, Nat.reduceEqDiff, reduceIte, reduceCtorEq, Nat.reduceLeDiff, Nat.reduceSub, List.reduceReplicate, Nat.reduceMul, Int.reduceToNat, Nat.reducePow]; refine hK _ ?_; clear hK K
  (repeat first | refine qK ?_ | refine qG ?_ | refine qH ?_ | refine qF rfl ?_ | refine qL ?_ | refine qB ?_ | refine qE ?_ | refine qA ?_ | refine qC ?_ | refine qT ?_ | refine qW ?_)
  simp only [zA, zM, zH, zE, zK, zJ, qS, qM, Nat.reduceEqDiff, reduceIte, reduceCtorEq]
  exact hres_vvv (by rw [e1, e2]; rfl)
 ·have hE := mgE_zero t0 t1 t2
  have e1 : mgTx x y z = mgT (chunksS x y z) := by rw [mgTx, if_neg (by simpa using hE)]
  have e2 : mgNn x y z = mgN (chunksS x y z) := by rw [mgNn, if_neg (by simpa using hE)]
  have hlen := chunks_len t0 t1 t2
  have hsz : ∀ n, (mgT ((chunksS x y z).take n)).size ≤ y.size + z.size + 31200 := fun n => by
   have h1 := mgT_size ((chunksS x y z).take n)
   have h2 : (cat (((chunksS x y z).take n).flatMap (·.l))).size ≤ y.size := by
    have : cat ((chunksS x y z).flatMap (·.l)) = y := by rw [show (chunksS x y z).flatMap (·.l) = splS y from chunks_l (splS x) (splS y) (splS z), cat_splS]
    rw [← List.take_append_drop n (chunksS x y z), List.flatMap_append, cat_app] at this
    rw [← congrArg ByteArray.size this, ByteArray.size_append]
    omega
   have h3 : (cat (((chunksS x y z).take n).flatMap (·.r))).size ≤ z.size := by
    have : cat ((chunksS x y z).flatMap (·.r)) = z := by rw [show (chunksS x y z).flatMap (·.r) = splS z from chunks_r (splS x) (splS y) (splS z), cat_splS]
    rw [← List.take_append_drop n (chunksS x y z), List.flatMap_append, cat_app] at this
    rw [← congrArg ByteArray.size this, ByteArray.size_append]
    omega
   have h4 : ((chunksS x y z).take n).length ≤ 1200 := by rw [List.length_take]; omega
   omega
  have hll : ∀ c ∈ chunksS x y z, c.b.length ≤ 400 ∧ c.l.length ≤ 400 ∧ c.r.length ≤ 400 ∧ (cat c.l).size ≤ y.size ∧ (cat c.r).size ≤ z.size := fun c hc => by
   have p1 := mem_part (·.b) hc
   have p2 := mem_part (·.l) hc
   have p3 := mem_part (·.r) hc
   rw [show (chunksS x y z).flatMap (·.b) = splS x from chunks_b (splS x) (splS y) (splS z)] at p1
   rw [show (chunksS x y z).flatMap (·.l) = splS y from chunks_l (splS x) (splS y) (splS z), cat_splS] at p2
   rw [show (chunksS x y z).flatMap (·.r) = splS z from chunks_r (splS x) (splS y) (splS z), cat_splS] at p3
   have := textS_zero t0; have := textS_zero t1; have := textS_zero t2
   exact ⟨by omega, by omega, by omega, p2.2.1, p3.2.1⟩
  have hfin : mgTx x y z = mgT ((chunksS x y z).take (chunksS x y z).length) ∧ mgNn x y z = mgN ((chunksS x y z).take (chunksS x y z).length) := by rw [List.take_length]; exact ⟨e1, e2⟩
  clear e1 e2
  generalize chunksS x y z = cs at *
  with_reducible refine hstop ?_; simp (maxSteps := 2000000) (disch := omega) only [push_cast, ↓Int.cast_ofNat_Int, Nat.reduceBEq, Nat.reduceAdd, Nat.reduceLT, Nat.reduceEqDiff, reduceIte, reduceCtorEq, Nat.reduceLeDiff, Nat.reduceSub, List.reduceReplicate, Nat.reduceMul, Int.reduceToNat, Nat.reducePow]
  refine hK _ ?_; clear hK K
  (repeat first | refine qE ?_ | refine qA ?_ | refine qC ?_ | refine qB ?_ | refine qD ?_); refine qJ (fun K hK => ?_); simp (maxSteps := 2000000) (disch := omega) only [push_cast, ↓Int.cast_ofNat_Int, Nat.reduceBEq, Nat.reduceAdd, Nat.reduceLT, Nat.reduceEqDiff, reduceIte, reduceCtorEq, Nat.reduceLeDiff, Nat.reduceSub, List.reduceReplicate, Nat.reduceMul, Int.reduceToNat, Nat.reducePow]; refine hK _ ?_; clear hK K
  (repeat first | refine qE ?_ | refine qA ?_ | refine qC ?_ | refine qB ?_ | refine qD ?_)
  refine zC rfl ?_
  (repeat first | refine qK ?_ | refine qG ?_ | refine qH ?_ | refine qF rfl ?_ | refine qL ?_ | refine qB ?_ | refine qE ?_ | refine qA ?_ | refine qC ?_ | refine qT ?_ | refine qW ?_)
  (repeat first | refine qE ?_ | refine qA ?_ | refine qC ?_ | refine qB ?_ | refine qD ?_); refine qJ (fun K hK => ?_); simp (maxSteps := 2000000) (disch := omega) only [push_cast, ↓Int.cast_ofNat_Int, Nat.reduceBEq, Nat.reduceAdd, Nat.reduceLT, Nat.reduceEqDiff, reduceIte, reduceCtorEq, Nat.reduceLeDiff, Nat.reduceSub, List.reduceReplicate, Nat.reduceMul, Int.reduceToNat, Nat.reducePow]; refine hK _ ?_; clear hK K
  (repeat first | refine qE ?_ | refine qA ?_ | refine qC ?_ | refine qB ?_ | refine qD ?_); refine qJ (fun K hK => ?_); simp (maxSteps := 2000000) (disch := omega) only [push_cast, ↓Int.cast_ofNat_Int, Nat.reduceBEq, Nat.reduceAdd, Nat.reduceLT, Nat.reduceEqDiff, reduceIte, reduceCtorEq, Nat.reduceLeDiff, Nat.reduceSub, List.reduceReplicate, Nat.reduceMul, Int.reduceToNat, Nat.reducePow]; refine hK _ ?_; clear hK K
  (repeat first | refine qE ?_ | refine qA ?_ | refine qC ?_ | refine qB ?_ | refine qD ?_)
  refine HW_loop (mrS cs) (fun n => n ≤ cs.length) (fun n => cs.length - n) [9, 11, 12, 13] [152] 0 (by simp only [qZ, qR, qP, qQ, qN, qS, qM, qX, qU, Nat.reduceEqDiff, reduceIte, mrS]; try rfl) (Nat.zero_le _) ?_
  intro n hn
  simp only [mrS]
  by_cases hlt : n < cs.length
  ·obtain ⟨c, hc⟩ : ∃ c, cs[n] = c := ⟨_, rfl⟩
   have hcm : c ∈ cs := hc ▸ List.getElem_mem hlt
   obtain ⟨b1, b2, b3, b4, b5⟩ := hll c hcm
   have hs1 := hsz n
   have hs2 := hsz (n + 1)
   have hnn := mgN_le (cs.take n)
   rw [List.length_take] at hnn
   have ht : cs.take (n + 1) = cs.take n ++ [c] := by rw [List.take_succ_eq_append_getElem hlt, hc]
   rw [ht, mgT_snoc, ByteArray.size_append] at hs2
   have hT := ckT_size c
   have hg : ∀ d, (cks cs).getD n d = [.v (.bool c.st), .lst true (strs c.b), .lst true (strs c.l), .lst true (strs c.r)] := fun d => by rw [cks_get hlt, hc]; rfl
   generalize hTT : mgT (cs.take n) = T at *
   generalize hNN : mgN (cs.take n) = M at *
   (repeat first | refine qE ?_ | refine qA ?_ | refine qC ?_ | refine qB ?_ | refine qD ?_); refine qJ (fun K hK => ?_); simp (maxSteps := 2000000) (disch := omega) only [push_cast, ↓Int.cast_ofNat_Int, Nat.reduceBEq, Nat.reduceAdd, Nat.reduceLT, Nat.reduceEqDiff, reduceIte, reduceCtorEq, Nat.reduceLeDiff, Nat.reduceSub, List.reduceReplicate, Nat.reduceMul, Int.reduceToNat, Nat.reducePow, cks_len]; refine hK _ ?_; clear hK K
   (repeat first | refine qE ?_ | refine qA ?_ | refine qC ?_ | refine qB ?_ | refine qD ?_)
   refine zD rfl ?_
   (repeat first | refine qK ?_ | refine qG ?_ | refine qH ?_ | refine qF rfl ?_ | refine qL ?_ | refine qB ?_ | refine qE ?_ | refine qA ?_ | refine qC ?_ | refine qT ?_ | refine qW ?_)
   cases hst : c.st with
   | true =>
    have hL : ckTakeL c := .inl hst
    have eT : ckT c = cat c.l := by rw [ckT, if_pos hL]
    have eN : ckN c = 0 := by rw [ckN, if_pos hL]
    (repeat first | refine qE ?_ | refine qA ?_ | refine qC ?_ | refine qB ?_ | refine qD ?_); refine qJ (fun K hK => ?_); simp (maxSteps := 2000000) (disch := omega) only [push_cast, ↓Int.cast_ofNat_Int, Nat.reduceBEq, Nat.reduceAdd, Nat.reduceLT, Nat.reduceEqDiff, reduceIte, reduceCtorEq, Nat.reduceLeDiff, Nat.reduceSub, List.reduceReplicate, Nat.reduceMul, Int.reduceToNat, Nat.reducePow, cks_len, cks_wid, hg, hst]; refine hK _ ?_; clear hK K
    refine zB [9, 11, 12, 13, 14] [112, 152] (by simp only [qZ, qR, qP, qQ, qN, qS, qM, qX, qU, Nat.reduceEqDiff, reduceIte]; exact rfl) ?_
    (repeat first | refine qE ?_ | refine qA ?_ | refine qC ?_ | refine qB ?_ | refine qD ?_); refine qJ (fun K hK => ?_); simp (maxSteps := 2000000) (disch := omega) only [push_cast, ↓Int.cast_ofNat_Int, Nat.reduceBEq, Nat.reduceAdd, Nat.reduceLT, Nat.reduceEqDiff, reduceIte, reduceCtorEq, Nat.reduceLeDiff, Nat.reduceSub, List.reduceReplicate, Nat.reduceMul, Int.reduceToNat, Nat.reducePow]
    refine hK _ ?_; clear hK K
    (repeat first | refine qE ?_ | refine qA ?_ | refine qC ?_ | refine qB ?_ | refine qD ?_)
    refine zD rfl ?_
    (repeat first | refine qE ?_ | refine qA ?_ | refine qC ?_ | refine qB ?_ | refine qD ?_); refine qJ (fun K hK => ?_); simp (maxSteps := 2000000) (disch := omega) only [push_cast, ↓Int.cast_ofNat_Int, Nat.reduceBEq, Nat.reduceAdd, Nat.reduceLT, Nat.reduceEqDiff, reduceIte, reduceCtorEq, Nat.reduceLeDiff, Nat.reduceSub, List.reduceReplicate, Nat.reduceMul, Int.reduceToNat, Nat.reducePow]
    refine hatv cl45 (refJoin_H c.l (by omega) (by omega)) (.cons (lendL (strs_old _)) .nil) ?_
    with_reducible refine hstop ?_; simp (maxSteps := 2000000) (disch := omega) only [push_cast, ↓Int.cast_ofNat_Int, Nat.reduceBEq, Nat.reduceAdd, Nat.reduceLT, Nat.reduceEqDiff, reduceIte, reduceCtorEq, Nat.reduceLeDiff, Nat.reduceSub, List.reduceReplicate, Nat.reduceMul, Int.reduceToNat, Nat.reducePow]
    refine ⟨by first | omega | decide | ((repeat' apply And.intro) <;> first | omega | decide), ?_⟩
    refine hK _ ?_; clear hK K
    (repeat first | refine qK ?_ | refine qG ?_ | refine qH ?_ | refine qF rfl ?_ | refine qL ?_ | refine qB ?_ | refine qE ?_ | refine qA ?_ | refine qC ?_ | refine qT ?_ | refine qW ?_)
    (repeat first | refine qE ?_ | refine qA ?_ | refine qC ?_ | refine qB ?_ | refine qD ?_); refine qJ (fun K hK => ?_); simp (maxSteps := 2000000) (disch := omega) only [push_cast, ↓Int.cast_ofNat_Int, Nat.reduceBEq, Nat.reduceAdd, Nat.reduceLT, Nat.reduceEqDiff, reduceIte, reduceCtorEq, Nat.reduceLeDiff, Nat.reduceSub, List.reduceReplicate, Nat.reduceMul, Int.reduceToNat, Nat.reducePow]; refine hK _ ?_; clear hK K
    (repeat first | refine qK ?_ | refine qG ?_ | refine qH ?_ | refine qF rfl ?_ | refine qL ?_ | refine qB ?_ | refine qE ?_ | refine qA ?_ | refine qC ?_ | refine qT ?_ | refine qW ?_)
    refine ⟨n + 1, by simp only [qZ, qR, qP, qQ, qN, qS, qM, qX, qU, Nat.reduceEqDiff, reduceIte, mrS]; rw [ht, mgT_snoc, mgN_snoc, hTT, hNN, eT, eN]; try rfl, hlt, by omega⟩
   | false =>
    (repeat first | refine qE ?_ | refine qA ?_ | refine qC ?_ | refine qB ?_ | refine qD ?_); refine qJ (fun K hK => ?_); simp (maxSteps := 2000000) (disch := omega) only [push_cast, ↓Int.cast_ofNat_Int, Nat.reduceBEq, Nat.reduceAdd, Nat.reduceLT, Nat.reduceEqDiff, reduceIte, reduceCtorEq, Nat.reduceLeDiff, Nat.reduceSub, List.reduceReplicate, Nat.reduceMul, Int.reduceToNat, Nat.reducePow, cks_len, cks_wid, hg, hst]; refine hK _ ?_; clear hK K
    refine zB [9, 11, 12, 13, 14] [112, 152] (by simp only [qZ, qR, qP, qQ, qN, qS, qM, qX, qU, Nat.reduceEqDiff, reduceIte]; exact rfl) ?_
    by_cases hlr : c.l = c.r
    ·have hL : ckTakeL c := .inr (.inl hlr)
     have eT : ckT c = cat c.l := by rw [ckT, if_pos hL]
     have eN : ckN c = 0 := by rw [ckN, if_pos hL]
     have S1 := same_H c.l c.r
     rw [decide_eq_true hlr] at S1
     (repeat first | refine qE ?_ | refine qA ?_ | refine qC ?_ | refine qB ?_ | refine qD ?_); refine qJ (fun K hK => ?_); simp (maxSteps := 2000000) (disch := omega) only [push_cast, ↓Int.cast_ofNat_Int, Nat.reduceBEq, Nat.reduceAdd, Nat.reduceLT, Nat.reduceEqDiff, reduceIte, reduceCtorEq, Nat.reduceLeDiff, Nat.reduceSub, List.reduceReplicate, Nat.reduceMul, Int.reduceToNat, Nat.reducePow]
     refine hatv cl23 S1 (.cons (lendL (strs_old _)) (.cons (lendL (strs_old _)) .nil)) ?_
     with_reducible refine hstop ?_; simp (maxSteps := 2000000) (disch := omega) only [push_cast, ↓Int.cast_ofNat_Int, Nat.reduceBEq, Nat.reduceAdd, Nat.reduceLT, Nat.reduceEqDiff, reduceIte, reduceCtorEq, Nat.reduceLeDiff, Nat.reduceSub, List.reduceReplicate, Nat.reduceMul, Int.reduceToNat, Nat.reducePow]
     refine hK _ ?_; clear hK K
     (repeat first | refine qE ?_ | refine qA ?_ | refine qC ?_ | refine qB ?_ | refine qD ?_)
     refine zD rfl ?_
     (repeat first | refine qE ?_ | refine qA ?_ | refine qC ?_ | refine qB ?_ | refine qD ?_); refine qJ (fun K hK => ?_); simp (maxSteps := 2000000) (disch := omega) only [push_cast, ↓Int.cast_ofNat_Int, Nat.reduceBEq, Nat.reduceAdd, Nat.reduceLT, Nat.reduceEqDiff, reduceIte, reduceCtorEq, Nat.reduceLeDiff, Nat.reduceSub, List.reduceReplicate, Nat.reduceMul, Int.reduceToNat, Nat.reducePow]
     refine hatv cl45 (refJoin_H c.l (by omega) (by omega)) (.cons (lendL (strs_old _)) .nil) ?_
     with_reducible refine hstop ?_; simp (maxSteps := 2000000) (disch := omega) only [push_cast, ↓Int.cast_ofNat_Int, Nat.reduceBEq, Nat.reduceAdd, Nat.reduceLT, Nat.reduceEqDiff, reduceIte, reduceCtorEq, Nat.reduceLeDiff, Nat.reduceSub, List.reduceReplicate, Nat.reduceMul, Int.reduceToNat, Nat.reducePow]
     refine ⟨by first | omega | decide | ((repeat' apply And.intro) <;> first | omega | decide), ?_⟩
     refine hK _ ?_; clear hK K
     (repeat first | refine qK ?_ | refine qG ?_ | refine qH ?_ | refine qF rfl ?_ | refine qL ?_ | refine qB ?_ | refine qE ?_ | refine qA ?_ | refine qC ?_ | refine qT ?_ | refine qW ?_)
     (repeat first | refine qE ?_ | refine qA ?_ | refine qC ?_ | refine qB ?_ | refine qD ?_); refine qJ (fun K hK => ?_); simp (maxSteps := 2000000) (disch := omega) only [push_cast, ↓Int.cast_ofNat_Int, Nat.reduceBEq, Nat.reduceAdd, Nat.reduceLT, Nat.reduceEqDiff, reduceIte, reduceCtorEq, Nat.reduceLeDiff, Nat.reduceSub, List.reduceReplicate, Nat.reduceMul, Int.reduceToNat, Nat.reducePow]; refine hK _ ?_; clear hK K
     (repeat first | refine qK ?_ | refine qG ?_ | refine qH ?_ | refine qF rfl ?_ | refine qL ?_ | refine qB ?_ | refine qE ?_ | refine qA ?_ | refine qC ?_ | refine qT ?_ | refine qW ?_)
     refine ⟨n + 1, by simp only [qZ, qR, qP, qQ, qN, qS, qM, qX, qU, Nat.reduceEqDiff, reduceIte, mrS]; rw [ht, mgT_snoc, mgN_snoc, hTT, hNN, eT, eN]; try rfl, hlt, by omega⟩
    ·have S1 := same_H c.l c.r
     rw [decide_eq_false hlr] at S1
     by_cases hbr : c.b = c.r
     ·have hL : ckTakeL c := .inr (.inr hbr)
      have eT : ckT c = cat c.l := by rw [ckT, if_pos hL]
      have eN : ckN c = 0 := by rw [ckN, if_pos hL]
      have S2 := same_H c.r c.b
      rw [decide_eq_true hbr.symm] at S2
      (repeat first | refine qE ?_ | refine qA ?_ | refine qC ?_ | refine qB ?_ | refine qD ?_); refine qJ (fun K hK => ?_); simp (maxSteps := 2000000) (disch := omega) only [push_cast, ↓Int.cast_ofNat_Int, Nat.reduceBEq, Nat.reduceAdd, Nat.reduceLT, Nat.reduceEqDiff, reduceIte, reduceCtorEq, Nat.reduceLeDiff, Nat.reduceSub, List.reduceReplicate, Nat.reduceMul, Int.reduceToNat, Nat.reducePow]
      refine hatv cl23 S1 (.cons (lendL (strs_old _)) (.cons (lendL (strs_old _)) .nil)) ?_
      with_reducible refine hstop ?_; simp (maxSteps := 2000000) (disch := omega) only [push_cast, ↓Int.cast_ofNat_Int, Nat.reduceBEq, Nat.reduceAdd, Nat.reduceLT, Nat.reduceEqDiff, reduceIte, reduceCtorEq, Nat.reduceLeDiff, Nat.reduceSub, List.reduceReplicate, Nat.reduceMul, Int.reduceToNat, Nat.reducePow]
      refine hatv cl23 S2 (.cons (lendL (strs_old _)) (.cons (lendL (strs_old _)) .nil)) ?_
      with_reducible refine hstop ?_; simp (maxSteps := 2000000) (disch := omega) only [push_cast, ↓Int.cast_ofNat_Int, Nat.reduceBEq, Nat.reduceAdd, Nat.reduceLT, Nat.reduceEqDiff, reduceIte, reduceCtorEq, Nat.reduceLeDiff, Nat.reduceSub, List.reduceReplicate, Nat.reduceMul, Int.reduceToNat, Nat.reducePow]
      refine hK _ ?_; clear hK K
      (repeat first | refine qE ?_ | refine qA ?_ | refine qC ?_ | refine qB ?_ | refine qD ?_)
      refine zD rfl ?_
      (repeat first | refine qE ?_ | refine qA ?_ | refine qC ?_ | refine qB ?_ | refine qD ?_); refine qJ (fun K hK => ?_); simp (maxSteps := 2000000) (disch := omega) only [push_cast, ↓Int.cast_ofNat_Int, Nat.reduceBEq, Nat.reduceAdd, Nat.reduceLT, Nat.reduceEqDiff, reduceIte, reduceCtorEq, Nat.reduceLeDiff, Nat.reduceSub, List.reduceReplicate, Nat.reduceMul, Int.reduceToNat, Nat.reducePow]
      refine hatv cl45 (refJoin_H c.l (by omega) (by omega)) (.cons (lendL (strs_old _)) .nil) ?_
      with_reducible refine hstop ?_; simp (maxSteps := 2000000) (disch := omega) only [push_cast, ↓Int.cast_ofNat_Int, Nat.reduceBEq, Nat.reduceAdd, Nat.reduceLT, Nat.reduceEqDiff, reduceIte, reduceCtorEq, Nat.reduceLeDiff, Nat.reduceSub, List.reduceReplicate, Nat.reduceMul, Int.reduceToNat, Nat.reducePow]
      refine ⟨by first | omega | decide | ((repeat' apply And.intro) <;> first | omega | decide), ?_⟩
      refine hK _ ?_; clear hK K
      (repeat first | refine qK ?_ | refine qG ?_ | refine qH ?_ | refine qF rfl ?_ | refine qL ?_ | refine qB ?_ | refine qE ?_ | refine qA ?_ | refine qC ?_ | refine qT ?_ | refine qW ?_)
      (repeat first | refine qE ?_ | refine qA ?_ | refine qC ?_ | refine qB ?_ | refine qD ?_); refine qJ (fun K hK => ?_); simp (maxSteps := 2000000) (disch := omega) only [push_cast, ↓Int.cast_ofNat_Int, Nat.reduceBEq, Nat.reduceAdd, Nat.reduceLT, Nat.reduceEqDiff, reduceIte, reduceCtorEq, Nat.reduceLeDiff, Nat.reduceSub, List.reduceReplicate, Nat.reduceMul, Int.reduceToNat, Nat.reducePow]; refine hK _ ?_; clear hK K
      (repeat first | refine qK ?_ | refine qG ?_ | refine qH ?_ | refine qF rfl ?_ | refine qL ?_ | refine qB ?_ | refine qE ?_ | refine qA ?_ | refine qC ?_ | refine qT ?_ | refine qW ?_)
      refine ⟨n + 1, by simp only [qZ, qR, qP, qQ, qN, qS, qM, qX, qU, Nat.reduceEqDiff, reduceIte, mrS]; rw [ht, mgT_snoc, mgN_snoc, hTT, hNN, eT, eN]; try rfl, hlt, by omega⟩
     ·have hL : ¬ ckTakeL c := fun h => h.elim (fun h => by rw [hst] at h; cases h) (fun h => h.elim hlr hbr)
      have S2 := same_H c.r c.b
      rw [decide_eq_false (fun e => hbr e.symm)] at S2
      (repeat first | refine qE ?_ | refine qA ?_ | refine qC ?_ | refine qB ?_ | refine qD ?_); refine qJ (fun K hK => ?_); simp (maxSteps := 2000000) (disch := omega) only [push_cast, ↓Int.cast_ofNat_Int, Nat.reduceBEq, Nat.reduceAdd, Nat.reduceLT, Nat.reduceEqDiff, reduceIte, reduceCtorEq, Nat.reduceLeDiff, Nat.reduceSub, List.reduceReplicate, Nat.reduceMul, Int.reduceToNat, Nat.reducePow]
      refine hatv cl23 S1 (.cons (lendL (strs_old _)) (.cons (lendL (strs_old _)) .nil)) ?_
      with_reducible refine hstop ?_; simp (maxSteps := 2000000) (disch := omega) only [push_cast, ↓Int.cast_ofNat_Int, Nat.reduceBEq, Nat.reduceAdd, Nat.reduceLT, Nat.reduceEqDiff, reduceIte, reduceCtorEq, Nat.reduceLeDiff, Nat.reduceSub, List.reduceReplicate, Nat.reduceMul, Int.reduceToNat, Nat.reducePow]
      refine hatv cl23 S2 (.cons (lendL (strs_old _)) (.cons (lendL (strs_old _)) .nil)) ?_
      with_reducible refine hstop ?_; simp (maxSteps := 2000000) (disch := omega) only [push_cast, ↓Int.cast_ofNat_Int, Nat.reduceBEq, Nat.reduceAdd, Nat.reduceLT, Nat.reduceEqDiff, reduceIte, reduceCtorEq, Nat.reduceLeDiff, Nat.reduceSub, List.reduceReplicate, Nat.reduceMul, Int.reduceToNat, Nat.reducePow]
      refine hK _ ?_; clear hK K
      (repeat first | refine qE ?_ | refine qA ?_ | refine qC ?_ | refine qB ?_ | refine qD ?_)
      refine zC rfl ?_
      refine zB [9, 11, 12, 13, 14] [112, 152] (by simp only [qZ, qR, qP, qQ, qN, qS, qM, qX, qU, Nat.reduceEqDiff, reduceIte]; exact rfl) ?_
      by_cases hbl : c.b = c.l
      ·have eT : ckT c = cat c.r := by rw [ckT, if_neg hL, if_pos hbl]
       have eN : ckN c = 0 := by rw [ckN, if_neg hL, if_pos hbl]
       have S3 := same_H c.l c.b
       rw [decide_eq_true hbl.symm] at S3
       (repeat first | refine qE ?_ | refine qA ?_ | refine qC ?_ | refine qB ?_ | refine qD ?_); refine qJ (fun K hK => ?_); simp (maxSteps := 2000000) (disch := omega) only [push_cast, ↓Int.cast_ofNat_Int, Nat.reduceBEq, Nat.reduceAdd, Nat.reduceLT, Nat.reduceEqDiff, reduceIte, reduceCtorEq, Nat.reduceLeDiff, Nat.reduceSub, List.reduceReplicate, Nat.reduceMul, Int.reduceToNat, Nat.reducePow]
       refine hatv cl23 S3 (.cons (lendL (strs_old _)) (.cons (lendL (strs_old _)) .nil)) ?_
       with_reducible refine hstop ?_; simp (maxSteps := 2000000) (disch := omega) only [push_cast, ↓Int.cast_ofNat_Int, Nat.reduceBEq, Nat.reduceAdd, Nat.reduceLT, Nat.reduceEqDiff, reduceIte, reduceCtorEq, Nat.reduceLeDiff, Nat.reduceSub, List.reduceReplicate, Nat.reduceMul, Int.reduceToNat, Nat.reducePow]
       refine hK _ ?_; clear hK K
       (repeat first | refine qE ?_ | refine qA ?_ | refine qC ?_ | refine qB ?_ | refine qD ?_)
       refine zD rfl ?_
       (repeat first | refine qE ?_ | refine qA ?_ | refine qC ?_ | refine qB ?_ | refine qD ?_); refine qJ (fun K hK => ?_); simp (maxSteps := 2000000) (disch := omega) only [push_cast, ↓Int.cast_ofNat_Int, Nat.reduceBEq, Nat.reduceAdd, Nat.reduceLT, Nat.reduceEqDiff, reduceIte, reduceCtorEq, Nat.reduceLeDiff, Nat.reduceSub, List.reduceReplicate, Nat.reduceMul, Int.reduceToNat, Nat.reducePow]
       refine hatv cl45 (refJoin_H c.r (by omega) (by omega)) (.cons (lendL (strs_old _)) .nil) ?_
       with_reducible refine hstop ?_; simp (maxSteps := 2000000) (disch := omega) only [push_cast, ↓Int.cast_ofNat_Int, Nat.reduceBEq, Nat.reduceAdd, Nat.reduceLT, Nat.reduceEqDiff, reduceIte, reduceCtorEq, Nat.reduceLeDiff, Nat.reduceSub, List.reduceReplicate, Nat.reduceMul, Int.reduceToNat, Nat.reducePow]
       refine ⟨by first | omega | decide | ((repeat' apply And.intro) <;> first | omega | decide), ?_⟩
       refine hK _ ?_; clear hK K
       (repeat first | refine qK ?_ | refine qG ?_ | refine qH ?_ | refine qF rfl ?_ | refine qL ?_ | refine qB ?_ | refine qE ?_ | refine qA ?_ | refine qC ?_ | refine qT ?_ | refine qW ?_)
       (repeat first | refine qE ?_ | refine qA ?_ | refine qC ?_ | refine qB ?_ | refine qD ?_); refine qJ (fun K hK => ?_); simp (maxSteps := 2000000) (disch := omega) only [push_cast, ↓Int.cast_ofNat_Int, Nat.reduceBEq, Nat.reduceAdd, Nat.reduceLT, Nat.reduceEqDiff, reduceIte, reduceCtorEq, Nat.reduceLeDiff, Nat.reduceSub, List.reduceReplicate, Nat.reduceMul, Int.reduceToNat, Nat.reducePow]; refine hK _ ?_; clear hK K
       (repeat first | refine qK ?_ | refine qG ?_ | refine qH ?_ | refine qF rfl ?_ | refine qL ?_ | refine qB ?_ | refine qE ?_ | refine qA ?_ | refine qC ?_ | refine qT ?_ | refine qW ?_)
       refine ⟨n + 1, by simp only [qZ, qR, qP, qQ, qN, qS, qM, qX, qU, Nat.reduceEqDiff, reduceIte, mrS]; rw [ht, mgT_snoc, mgN_snoc, hTT, hNN, eT, eN]; try rfl, hlt, by omega⟩
      ·have eT : ckT c = ((((mkA ++ cat (closedS c.l)) ++ mkM) ++ cat (closedS c.r)) ++ mkB) := by rw [ckT, if_neg hL, if_neg hbl]
       have eN : ckN c = 1 := by rw [ckN, if_neg hL, if_neg hbl]
       have S3 := same_H c.l c.b
       rw [decide_eq_false (fun e => hbl e.symm)] at S3
       have k1 := refClosed_H c.l (by omega) (fun x hx => by have := cat_mem hx; omega)
       have k2 := refClosed_H c.r (by omega) (fun x hx => by have := cat_mem hx; omega)
       have z1 := closedS_cat c.l
       have z2 := closedS_cat c.r
       have j1 := refJoin_H (closedS c.l) (by rw [closedS_len]; omega) (by omega)
       have j2 := refJoin_H (closedS c.r) (by rw [closedS_len]; omega) (by omega)
       (repeat first | refine qE ?_ | refine qA ?_ | refine qC ?_ | refine qB ?_ | refine qD ?_); refine qJ (fun K hK => ?_); simp (maxSteps := 2000000) (disch := omega) only [push_cast, ↓Int.cast_ofNat_Int, Nat.reduceBEq, Nat.reduceAdd, Nat.reduceLT, Nat.reduceEqDiff, reduceIte, reduceCtorEq, Nat.reduceLeDiff, Nat.reduceSub, List.reduceReplicate, Nat.reduceMul, Int.reduceToNat, Nat.reducePow]
       refine hatv cl23 S3 (.cons (lendL (strs_old _)) (.cons (lendL (strs_old _)) .nil)) ?_
       with_reducible refine hstop ?_; simp (maxSteps := 2000000) (disch := omega) only [push_cast, ↓Int.cast_ofNat_Int, Nat.reduceBEq, Nat.reduceAdd, Nat.reduceLT, Nat.reduceEqDiff, reduceIte, reduceCtorEq, Nat.reduceLeDiff, Nat.reduceSub, List.reduceReplicate, Nat.reduceMul, Int.reduceToNat, Nat.reducePow]
       refine hK _ ?_; clear hK K
       (repeat first | refine qE ?_ | refine qA ?_ | refine qC ?_ | refine qB ?_ | refine qD ?_)
       refine zC rfl ?_
       (repeat first | refine qE ?_ | refine qA ?_ | refine qC ?_ | refine qB ?_ | refine qD ?_); refine qJ (fun K hK => ?_); simp (maxSteps := 2000000) (disch := omega) only [push_cast, ↓Int.cast_ofNat_Int, Nat.reduceBEq, Nat.reduceAdd, Nat.reduceLT, Nat.reduceEqDiff, reduceIte, reduceCtorEq, Nat.reduceLeDiff, Nat.reduceSub, List.reduceReplicate, Nat.reduceMul, Int.reduceToNat, Nat.reducePow]; refine hK _ ?_; clear hK K
       refine zB [9, 11, 12, 13, 14] [112, 152] (by simp only [qZ, qR, qP, qQ, qN, qS, qM, qX, qU, Nat.reduceEqDiff, reduceIte]; exact rfl) ?_
       have sA : ({ data := #[60, 60, 60, 60, 60, 60, 60, 10] } : ByteArray).size = 8 := rfl
       have sM : ({ data := #[61, 61, 61, 61, 61, 61, 61, 10] } : ByteArray).size = 8 := rfl
       have sB : ({ data := #[62, 62, 62, 62, 62, 62, 62, 10] } : ByteArray).size = 8 := rfl
       (repeat first | refine qE ?_ | refine qA ?_ | refine qC ?_ | refine qB ?_ | refine qD ?_); refine HW_drwR2 12 mixed (by kernel_rfl) (fun K hK K1 hK1 => ?_); simp (maxSteps := 2000000) (disch := omega) only [push_cast, ↓Int.cast_ofNat_Int, Nat.reduceBEq, Nat.reduceAdd, Nat.reduceLT, Nat.reduceEqDiff, reduceIte, reduceCtorEq, Nat.reduceLeDiff, Nat.reduceSub, List.reduceReplicate, Nat.reduceMul, Int.reduceToNat, Nat.reducePow, sA, sM, sB, ByteArray.size_append]
       refine ⟨by omega, ?_⟩
       refine hatRo cl46 k1 (.cons (lendL (strs_old _)) .nil) ?_
       with_reducible refine hstop ?_; simp (maxSteps := 2000000) (disch := omega) only [push_cast, ↓Int.cast_ofNat_Int, Nat.reduceBEq, Nat.reduceAdd, Nat.reduceLT, Nat.reduceEqDiff, reduceIte, reduceCtorEq, Nat.reduceLeDiff, Nat.reduceSub, List.reduceReplicate, Nat.reduceMul, Int.reduceToNat, Nat.reducePow]
       refine hatRv cl45 j1 (.cons (lendL (strs_old _)) .nil) ?_
       with_reducible refine hstop ?_; simp (maxSteps := 2000000) (disch := omega) only [push_cast, ↓Int.cast_ofNat_Int, Nat.reduceBEq, Nat.reduceAdd, Nat.reduceLT, Nat.reduceEqDiff, reduceIte, reduceCtorEq, Nat.reduceLeDiff, Nat.reduceSub, List.reduceReplicate, Nat.reduceMul, Int.reduceToNat, Nat.reducePow, sA, sM, sB, ByteArray.size_append]
       refine ⟨by omega, by omega, ?_⟩
       refine hatRo cl46 k2 (.cons (lendL (strs_old _)) .nil) ?_
       with_reducible refine hstop ?_; simp (maxSteps := 2000000) (disch := omega) only [push_cast, ↓Int.cast_ofNat_Int, Nat.reduceBEq, Nat.reduceAdd, Nat.reduceLT, Nat.reduceEqDiff, reduceIte, reduceCtorEq, Nat.reduceLeDiff, Nat.reduceSub, List.reduceReplicate, Nat.reduceMul, Int.reduceToNat, Nat.reducePow]
       refine hatRv cl45 j2 (.cons (lendL (strs_old _)) .nil) ?_
       with_reducible refine hstop ?_; simp (maxSteps := 2000000) (disch := omega) only [push_cast, ↓Int.cast_ofNat_Int, Nat.reduceBEq, Nat.reduceAdd, Nat.reduceLT, Nat.reduceEqDiff, reduceIte, reduceCtorEq, Nat.reduceLeDiff, Nat.reduceSub, List.reduceReplicate, Nat.reduceMul, Int.reduceToNat, Nat.reducePow, sA, sM, sB, ByteArray.size_append]
       refine hK1 _ ?_; clear hK1 K1; with_reducible refine hstop ?_; simp (maxSteps := 2000000) (disch := omega) only [push_cast, ↓Int.cast_ofNat_Int, Nat.reduceBEq, Nat.reduceAdd, Nat.reduceLT, Nat.reduceEqDiff, reduceIte, reduceCtorEq, Nat.reduceLeDiff, Nat.reduceSub, List.reduceReplicate, Nat.reduceMul, Int.reduceToNat, Nat.reducePow, sA, sM, sB, ByteArray.size_append]
       refine ⟨by omega, by omega, ?_⟩
       refine hK _ ?_; clear hK K
       (repeat first | refine qK ?_ | refine qG ?_ | refine qH ?_ | refine qF rfl ?_ | refine qL ?_ | refine qB ?_ | refine qE ?_ | refine qA ?_ | refine qC ?_ | refine qT ?_ | refine qW ?_)
       (repeat first | refine qE ?_ | refine qA ?_ | refine qC ?_ | refine qB ?_ | refine qD ?_); refine qJ (fun K hK => ?_); simp (maxSteps := 2000000) (disch := omega) only [push_cast, ↓Int.cast_ofNat_Int, Nat.reduceBEq, Nat.reduceAdd, Nat.reduceLT, Nat.reduceEqDiff, reduceIte, reduceCtorEq, Nat.reduceLeDiff, Nat.reduceSub, List.reduceReplicate, Nat.reduceMul, Int.reduceToNat, Nat.reducePow]; refine hK _ ?_; clear hK K
       (repeat first | refine qK ?_ | refine qG ?_ | refine qH ?_ | refine qF rfl ?_ | refine qL ?_ | refine qB ?_ | refine qE ?_ | refine qA ?_ | refine qC ?_ | refine qT ?_ | refine qW ?_)
       refine ⟨n + 1, by simp only [qZ, qR, qP, qQ, qN, qS, qM, qX, qU, Nat.reduceEqDiff, reduceIte, mrS]; rw [ht, mgT_snoc, mgN_snoc, hTT, hNN, eT, eN]; simp only [ByteArray.append_assoc]; try rfl, hlt, by omega⟩
  ·have hne : n = cs.length := by omega
   subst hne
   (repeat first | refine qE ?_ | refine qA ?_ | refine qC ?_ | refine qB ?_ | refine qD ?_); refine qJ (fun K hK => ?_); simp (maxSteps := 2000000) (disch := omega) only [push_cast, ↓Int.cast_ofNat_Int, Nat.reduceBEq, Nat.reduceAdd, Nat.reduceLT, Nat.reduceEqDiff, reduceIte, reduceCtorEq, Nat.reduceLeDiff, Nat.reduceSub, List.reduceReplicate, Nat.reduceMul, Int.reduceToNat, Nat.reducePow, cks_len]; refine hK _ ?_; clear hK K
   (repeat first | refine qE ?_ | refine qA ?_ | refine qC ?_ | refine qB ?_ | refine qD ?_)
   refine zC rfl ?_
   (repeat first | refine qK ?_ | refine qG ?_ | refine qH ?_ | refine qF rfl ?_ | refine qL ?_ | refine qB ?_ | refine qE ?_ | refine qA ?_ | refine qC ?_ | refine qT ?_ | refine qW ?_)
   (repeat first | refine qE ?_ | refine qA ?_ | refine qC ?_ | refine qB ?_ | refine qD ?_); refine qJ (fun K hK => ?_); simp (maxSteps := 2000000) (disch := omega) only [push_cast, ↓Int.cast_ofNat_Int, Nat.reduceBEq, Nat.reduceAdd, Nat.reduceLT, Nat.reduceEqDiff, reduceIte, reduceCtorEq, Nat.reduceLeDiff, Nat.reduceSub, List.reduceReplicate, Nat.reduceMul, Int.reduceToNat, Nat.reducePow]; refine hK _ ?_; clear hK K
   (repeat first | refine qK ?_ | refine qG ?_ | refine qH ?_ | refine qF rfl ?_ | refine qL ?_ | refine qB ?_ | refine qE ?_ | refine qA ?_ | refine qC ?_ | refine qT ?_ | refine qW ?_)
   simp only [zA, zM, zH, zE, zK, zJ, qS, qM, Nat.reduceEqDiff, reduceIte, reduceCtorEq]
   exact hres_vvv (by rw [hfin.1, hfin.2, hE])
end Go.Proofs.Ytlfenddhppoflaa
