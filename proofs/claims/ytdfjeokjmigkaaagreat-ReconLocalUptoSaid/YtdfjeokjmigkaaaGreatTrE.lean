/-
  The search in a tree: slices.BinarySearchFunc, tree.find, tree.Get.
-/
import Derived.Test.YtdfjeokjmigkaaaGreatTrD
import Derived.Test.YtdfjeokjmigkaaaGreatRcc
set_option linter.unusedSimpArgs false
set_option linter.unusedVariables false
set_option maxRecDepth 20000
namespace Go.Proofs.YtdfjeokjmigkaaaGreat
open Go Go.Eng Go.RowKit Go.Tr
set_option maxHeartbeats 4000000 in
theorem zEg (t : List Ent) (p : ByteArray) (hr : rise t) (hl : t.length ≤ 140737488355328) : HFun Tryz.prog 105 [.lst false (aS t), .v (.string p), .v (.func (.func 106) #[] #[])] (fun h st => h = .tup [.v (.int .i64 (bF t p)), .v (.bool (mY t p))]) := by
 refine eM (N := 49) Tryz.func105 rfl Tryz.ntmps105 Tryz.results105 (by simp) ?_
 obtain ⟨p1, p2⟩ := qDf hr p
 have pl := zFn t p
 refine zE ?_; refine zJ (fun K hK => ?_); simp (disch := omega) only [push_cast, ↓Int.cast_ofNat_Int, Nat.reduceBEq, Nat.reduceAdd, Nat.reduceLT, Nat.reduceEqDiff, reduceIte, reduceCtorEq, Nat.reduceLeDiff, Nat.reduceSub, List.reduceReplicate, Nat.reduceMul, Int.reduceToNat, Nat.reducePow]; refine hK _ ?_; clear hK K
 refine zE ?_; refine zJ (fun K hK => ?_); simp (disch := omega) only [push_cast, ↓Int.cast_ofNat_Int, Nat.reduceBEq, Nat.reduceAdd, Nat.reduceLT, Nat.reduceEqDiff, reduceIte, reduceCtorEq, Nat.reduceLeDiff, Nat.reduceSub, List.reduceReplicate, Nat.reduceMul, Int.reduceToNat, Nat.reducePow, yV]; refine hK _ ?_; clear hK K
 refine zE ?_; refine zJ (fun K hK => ?_); simp (disch := omega) only [push_cast, ↓Int.cast_ofNat_Int, Nat.reduceBEq, Nat.reduceAdd, Nat.reduceLT, Nat.reduceEqDiff, reduceIte, reduceCtorEq, Nat.reduceLeDiff, Nat.reduceSub, List.reduceReplicate, Nat.reduceMul, Int.reduceToNat, Nat.reducePow, yV]; refine hK _ ?_; clear hK K
 refine zE ?_; refine zD ?_
 refine cQ (fun x : Nat × Nat => ⟨[(0, .lst false (aS t)), (1, .v (.string p)), (2, .v (.func (.func 106) #[] #[])), (8, .v (.int .i64 t.length)), (9, .v (.int .i64 x.1)), (10, .v (.int .i64 x.2))], []⟩)
  (fun x => x.1 ≤ bF t p ∧ bF t p ≤ x.2 ∧ x.2 ≤ t.length) (fun x => x.2 - x.1) [0, 1, 2, 8, 9, 10] [] (0, t.length) rfl ⟨Nat.zero_le _, pl, Nat.le_refl _⟩ ?_
 rintro ⟨i, j⟩ ⟨h1, h2, h3⟩
 simp only at h1 h2 h3
 by_cases hlt : i < j
 ·refine zE ?_; refine zE ?_; refine zJ (fun K hK => ?_); simp (disch := omega) only [push_cast, ↓Int.cast_ofNat_Int, Nat.reduceBEq, Nat.reduceAdd, Nat.reduceLT, Nat.reduceEqDiff, reduceIte, reduceCtorEq, Nat.reduceLeDiff, Nat.reduceSub, List.reduceReplicate, Nat.reduceMul, Int.reduceToNat, Nat.reducePow]; refine hK _ ?_; clear hK K
  refine zA ?_
  refine yD rfl ?_
  refine zC ?_; refine zA ?_
  obtain ⟨m, hm⟩ : ∃ m, m = (i + j) / 2 := ⟨_, rfl⟩
  have he : IntKind.i64.wrap ((IntKind.u64.wrap ((i : Int) + j)).fdiv (2 ^ min 1 IntKind.u64.bits)) = (m : Int) := by
   have hw : IntKind.u64.wrap ((i : Int) + j) = (i : Int) + j := by rw [IntKind.wrap_u64]; omega
   rw [hw, show (2 ^ min 1 IntKind.u64.bits : Int) = 2 from rfl, Int.fdiv_eq_ediv_of_nonneg _ (by omega)]
   rw [show ((i : Int) + j) / 2 = (m : Int) by omega]
   exact zR9 (by omega) (by omega)
  have hmt : m < t.length := by omega
  refine zD ?_; refine zE ?_; refine zJ (fun K hK => ?_); simp (disch := omega) only [push_cast, ↓Int.cast_ofNat_Int, Nat.reduceBEq, Nat.reduceAdd, Nat.reduceLT, Nat.reduceEqDiff, reduceIte, reduceCtorEq, Nat.reduceLeDiff, Nat.reduceSub, List.reduceReplicate, Nat.reduceMul, Int.reduceToNat, Nat.reducePow]
  rw [he]
  refine ⟨by omega, hK _ ?_⟩
  clear hK K he
  refine zE ?_; refine zJ (fun K hK => ?_); simp (disch := omega) only [push_cast, ↓Int.cast_ofNat_Int, Nat.reduceBEq, Nat.reduceAdd, Nat.reduceLT, Nat.reduceEqDiff, reduceIte, reduceCtorEq, Nat.reduceLeDiff, Nat.reduceSub, List.reduceReplicate, Nat.reduceMul, Int.reduceToNat, Nat.reducePow, yV, yU, yW hmt]
  refine aY zJr (qKq t[m] p) (.cons (qJy _) (.cons (.v _) .nil)) ?_
  have hb := zNd t[m].1 p
  cases hc : blt t[m].1 p with
  | true =>
   rw [hc, decide_eq_true_iff] at hb
   have : m < bF t p := by
    rcases Nat.lt_or_ge m (bF t p) with h | h
    ·exact h
    ·rw [p2 m hmt h] at hc; cases hc
   with_reducible refine aC ?_; simp (disch := omega) only [push_cast, ↓Int.cast_ofNat_Int, Nat.reduceBEq, Nat.reduceAdd, Nat.reduceLT, Nat.reduceEqDiff, reduceIte, reduceCtorEq, Nat.reduceLeDiff, Nat.reduceSub, List.reduceReplicate, Nat.reduceMul, Int.reduceToNat, Nat.reducePow]
   refine hK _ ?_; clear hK K
   refine zA ?_
   refine yD rfl ?_
   skip
   refine zJ (fun K hK => ?_); simp (disch := omega) only [push_cast, ↓Int.cast_ofNat_Int, Nat.reduceBEq, Nat.reduceAdd, Nat.reduceLT, Nat.reduceEqDiff, reduceIte, reduceCtorEq, Nat.reduceLeDiff, Nat.reduceSub, List.reduceReplicate, Nat.reduceMul, Int.reduceToNat, Nat.reducePow]; refine hK _ ?_; clear hK K
   refine zB ?_; refine zA ?_
   exact ⟨(m + 1, j), rfl, ⟨by dsimp only; omega, h2, h3⟩, by dsimp only; omega⟩
  | false =>
   rw [hc, decide_eq_false_iff_not] at hb
   have : bF t p ≤ m := by
    rcases Nat.lt_or_ge m (bF t p) with h | h
    ·rw [p1 m hmt h] at hc; cases hc
    ·exact h
   with_reducible refine aC ?_; simp (disch := omega) only [push_cast, ↓Int.cast_ofNat_Int, Nat.reduceBEq, Nat.reduceAdd, Nat.reduceLT, Nat.reduceEqDiff, reduceIte, reduceCtorEq, Nat.reduceLeDiff, Nat.reduceSub, List.reduceReplicate, Nat.reduceMul, Int.reduceToNat, Nat.reducePow]
   refine hK _ ?_; clear hK K
   refine zA ?_
   refine yC rfl ?_
   skip
   refine zJ (fun K hK => ?_); simp (disch := omega) only [push_cast, ↓Int.cast_ofNat_Int, Nat.reduceBEq, Nat.reduceAdd, Nat.reduceLT, Nat.reduceEqDiff, reduceIte, reduceCtorEq, Nat.reduceLeDiff, Nat.reduceSub, List.reduceReplicate, Nat.reduceMul, Int.reduceToNat, Nat.reducePow]; refine hK _ ?_; clear hK K
   refine zB ?_; refine zA ?_
   exact ⟨(i, m), rfl, ⟨h1, this, by dsimp only; omega⟩, by dsimp only; omega⟩
 ·have hij : i = bF t p ∧ j = bF t p := by omega
  obtain ⟨rfl, rfl⟩ := hij
  refine zE ?_; refine zE ?_; refine zJ (fun K hK => ?_); simp (disch := omega) only [push_cast, ↓Int.cast_ofNat_Int, Nat.reduceBEq, Nat.reduceAdd, Nat.reduceLT, Nat.reduceEqDiff, reduceIte, reduceCtorEq, Nat.reduceLeDiff, Nat.reduceSub, List.reduceReplicate, Nat.reduceMul, Int.reduceToNat, Nat.reducePow]; refine hK _ ?_; clear hK K
  refine zA ?_
  refine yC rfl ?_
  refine zT ?_; refine zG ?_; refine zG ?_; refine zH ?_; refine zE ?_
  have th := oL hr p
  by_cases hp : bF t p < t.length
  ·have hb := zNe t[bF t p].1 p
   by_cases hc : t[bF t p].1 = p
   ·rw [decide_eq_true hc, decide_eq_true_iff] at hb
    rw [decide_eq_true ⟨hp, hc⟩] at th
    rw [th]
    refine zJ (fun K hK => ?_); simp (disch := omega) only [push_cast, ↓Int.cast_ofNat_Int, Nat.reduceBEq, Nat.reduceAdd, Nat.reduceLT, Nat.reduceEqDiff, reduceIte, reduceCtorEq, Nat.reduceLeDiff, Nat.reduceSub, List.reduceReplicate, Nat.reduceMul, Int.reduceToNat, Nat.reducePow, yV, yU, yW hp]
    refine aY zJr (qKq t[bF t p] p) (.cons (qJy _) (.cons (.v _) .nil)) ?_
    with_reducible refine aC ?_; simp (disch := omega) only [push_cast, ↓Int.cast_ofNat_Int, Nat.reduceBEq, Nat.reduceAdd, Nat.reduceLT, Nat.reduceEqDiff, reduceIte, reduceCtorEq, Nat.reduceLeDiff, Nat.reduceSub, List.reduceReplicate, Nat.reduceMul, Int.reduceToNat, Nat.reducePow]
    refine hK _ ?_; clear hK K
    refine zA ?_; refine zW ?_
    simp only [yA, yM, yH, yE, aA, aD, yK, yJ, zS, zM, Nat.reduceEqDiff, reduceIte, reduceCtorEq]
    exact oH rfl
   ·rw [decide_eq_false hc, decide_eq_false_iff_not] at hb
    rw [decide_eq_false (fun ⟨_, h⟩ => hc h)] at th
    rw [th]
    refine zJ (fun K hK => ?_); simp (disch := omega) only [push_cast, ↓Int.cast_ofNat_Int, Nat.reduceBEq, Nat.reduceAdd, Nat.reduceLT, Nat.reduceEqDiff, reduceIte, reduceCtorEq, Nat.reduceLeDiff, Nat.reduceSub, List.reduceReplicate, Nat.reduceMul, Int.reduceToNat, Nat.reducePow, yV, yU, yW hp]
    refine aY zJr (qKq t[bF t p] p) (.cons (qJy _) (.cons (.v _) .nil)) ?_
    with_reducible refine aC ?_; simp (disch := omega) only [push_cast, ↓Int.cast_ofNat_Int, Nat.reduceBEq, Nat.reduceAdd, Nat.reduceLT, Nat.reduceEqDiff, reduceIte, reduceCtorEq, Nat.reduceLeDiff, Nat.reduceSub, List.reduceReplicate, Nat.reduceMul, Int.reduceToNat, Nat.reducePow]
    refine hK _ ?_; clear hK K
    refine zA ?_; refine zW ?_
    simp only [yA, yM, yH, yE, aA, aD, yK, yJ, zS, zM, Nat.reduceEqDiff, reduceIte, reduceCtorEq]
    exact oH rfl
  ·rw [decide_eq_false (fun ⟨h, _⟩ => hp h)] at th
   rw [th]
   refine zJ (fun K hK => ?_); simp (disch := omega) only [push_cast, ↓Int.cast_ofNat_Int, Nat.reduceBEq, Nat.reduceAdd, Nat.reduceLT, Nat.reduceEqDiff, reduceIte, reduceCtorEq, Nat.reduceLeDiff, Nat.reduceSub, List.reduceReplicate, Nat.reduceMul, Int.reduceToNat, Nat.reducePow]; refine hK _ ?_; clear hK K
   refine zA ?_; refine zW ?_
   simp only [yA, yM, yH, yE, aA, aD, yK, yJ, zS, zM, Nat.reduceEqDiff, reduceIte, reduceCtorEq]
   exact oH rfl
set_option maxHeartbeats 1000000 in
theorem zRi (t : List Ent) (p : ByteArray) (hr : rise t) (hl : t.length ≤ 140737488355328) : HFun Tryz.prog 78 [.lst false (aS t), .v (.string p)] (fun h st => h = .tup [.v (.int .i64 (bF t p)), .v (.bool (mY t p))]) := by
 refine eM (N := 11) Tryz.func78 rfl Tryz.ntmps78 Tryz.results78 (by simp) ?_
 refine zE ?_; refine zJ (fun K hK => ?_); simp (disch := omega) only [push_cast, ↓Int.cast_ofNat_Int, Nat.reduceBEq, Nat.reduceAdd, Nat.reduceLT, Nat.reduceEqDiff, reduceIte, reduceCtorEq, Nat.reduceLeDiff, Nat.reduceSub, List.reduceReplicate, Nat.reduceMul, Int.reduceToNat, Nat.reducePow]; refine hK _ ?_; clear hK K
 refine zE ?_; refine zJ (fun K hK => ?_); simp (disch := omega) only [push_cast, ↓Int.cast_ofNat_Int, Nat.reduceBEq, Nat.reduceAdd, Nat.reduceLT, Nat.reduceEqDiff, reduceIte, reduceCtorEq, Nat.reduceLeDiff, Nat.reduceSub, List.reduceReplicate, Nat.reduceMul, Int.reduceToNat, Nat.reducePow]
 refine qSv (xs := [.int .i64 (bF t p), .bool (mY t p)]) zTq (zEg t p hr hl) (.cons (aK (yT _)) (.cons (.v _) (.cons (.v _) .nil))) ?_
 with_reducible refine aC ?_; simp (disch := omega) only [push_cast, ↓Int.cast_ofNat_Int, Nat.reduceBEq, Nat.reduceAdd, Nat.reduceLT, Nat.reduceEqDiff, reduceIte, reduceCtorEq, Nat.reduceLeDiff, Nat.reduceSub, List.reduceReplicate, Nat.reduceMul, Int.reduceToNat, Nat.reducePow]
 refine hK _ ?_; clear hK K
 refine zA ?_; refine zW ?_
 simp only [yA, yM, yH, yE, aA, aD, yK, yJ, zS, zM, Nat.reduceEqDiff, reduceIte, reduceCtorEq]
 exact oH rfl
set_option maxHeartbeats 1000000 in
theorem zH8 (t : List Ent) (p : ByteArray) (hr : rise t) (hl : t.length ≤ 140737488355328) : HFun Tryz.prog 60 [.lst false (aS t), .v (.string p)] (fun h st => h = iL (eF t p) ∧ st = []) := by
 refine eM (N := 20) Tryz.func60 rfl Tryz.ntmps60 Tryz.results60 (by simp) ?_
 rw [qYb hr p]
 refine zE ?_; refine zJ (fun K hK => ?_); simp (disch := omega) only [push_cast, ↓Int.cast_ofNat_Int, Nat.reduceBEq, Nat.reduceAdd, Nat.reduceLT, Nat.reduceEqDiff, reduceIte, reduceCtorEq, Nat.reduceLeDiff, Nat.reduceSub, List.reduceReplicate, Nat.reduceMul, Int.reduceToNat, Nat.reducePow]; refine hK _ ?_; clear hK K
 refine zE ?_; refine zE ?_; refine zJ (fun K hK => ?_); simp (disch := omega) only [push_cast, ↓Int.cast_ofNat_Int, Nat.reduceBEq, Nat.reduceAdd, Nat.reduceLT, Nat.reduceEqDiff, reduceIte, reduceCtorEq, Nat.reduceLeDiff, Nat.reduceSub, List.reduceReplicate, Nat.reduceMul, Int.reduceToNat, Nat.reducePow]
 refine qSv (xs := [.int .i64 (bF t p), .bool (mY t p)]) zVe (zRi t p hr hl) (.cons (aK (yT _)) (.cons (.v _) .nil)) ?_
 with_reducible refine aC ?_; simp (disch := omega) only [push_cast, ↓Int.cast_ofNat_Int, Nat.reduceBEq, Nat.reduceAdd, Nat.reduceLT, Nat.reduceEqDiff, reduceIte, reduceCtorEq, Nat.reduceLeDiff, Nat.reduceSub, List.reduceReplicate, Nat.reduceMul, Int.reduceToNat, Nat.reducePow]
 refine hK _ ?_; clear hK K
 refine zE ?_; refine zJ (fun K hK => ?_); simp (disch := omega) only [push_cast, ↓Int.cast_ofNat_Int, Nat.reduceBEq, Nat.reduceAdd, Nat.reduceLT, Nat.reduceEqDiff, reduceIte, reduceCtorEq, Nat.reduceLeDiff, Nat.reduceSub, List.reduceReplicate, Nat.reduceMul, Int.reduceToNat, Nat.reducePow]; refine hK _ ?_; clear hK K
 have tp := oL hr p
 by_cases h : bF t p < t.length ∧ mY t p = true
 ·rw [dif_pos h]
  have hlt := h.1
  have ht := h.2
  refine eD rfl (fun _ => ?_) (fun e => by rw [ht] at e; cases e)
  refine zE ?_; refine zJ (fun K hK => ?_); simp (disch := omega) only [push_cast, ↓Int.cast_ofNat_Int, Nat.reduceBEq, Nat.reduceAdd, Nat.reduceLT, Nat.reduceEqDiff, reduceIte, reduceCtorEq, Nat.reduceLeDiff, Nat.reduceSub, List.reduceReplicate, Nat.reduceMul, Int.reduceToNat, Nat.reducePow, yV, yU, yW hlt]; refine hK _ ?_; clear hK K
  refine zA ?_; refine zW ?_; refine zK ?_
  simp (disch := omega) only [yA, yM, yH, yE, aA, aD, yK, yJ, push_cast, ↓Int.cast_ofNat_Int, Nat.reduceBEq, Nat.reduceAdd, Nat.reduceLT, Nat.reduceEqDiff, reduceIte, reduceCtorEq, Nat.reduceLeDiff, Nat.reduceSub, List.reduceReplicate, Nat.reduceMul, Int.reduceToNat, Int.toNat_natCast, Nat.reducePow, reduceIte]
  exact qCf (n := t[bF t p].2) ⟨rfl, rfl⟩
 ·rw [dif_neg h]
  have ht : mY t p = false := by
   cases e : mY t p with
   | false => rfl
   | true =>
    have tp := oL hr p
    rw [e] at tp
    exact (h ⟨(decide_eq_true_iff.1 tp.symm).1, e⟩).elim
  refine eD rfl (fun e => by rw [ht] at e; cases e) (fun _ => ?_)
  refine zC ?_; refine zE ?_; refine zJ (fun K hK => ?_); simp (disch := omega) only [push_cast, ↓Int.cast_ofNat_Int, Nat.reduceBEq, Nat.reduceAdd, Nat.reduceLT, Nat.reduceEqDiff, reduceIte, reduceCtorEq, Nat.reduceLeDiff, Nat.reduceSub, List.reduceReplicate, Nat.reduceMul, Int.reduceToNat, Nat.reducePow]; refine hK _ ?_; clear hK K
  refine zA ?_; refine zW ?_
  simp (disch := omega) only [yA, yM, yH, yE, aA, aD, yK, yJ, push_cast, ↓Int.cast_ofNat_Int, Nat.reduceBEq, Nat.reduceAdd, Nat.reduceLT, Nat.reduceEqDiff, reduceIte, reduceCtorEq, Nat.reduceLeDiff, Nat.reduceSub, List.reduceReplicate, Nat.reduceMul, Int.reduceToNat, Int.toNat_natCast, Nat.reducePow, reduceIte]
  exact qCf (n := qPs) ⟨rfl, rfl⟩
end Go.Proofs.YtdfjeokjmigkaaaGreat
