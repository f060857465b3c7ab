/-
  The search in a tree: slices.BinarySearchFunc, tree.find, tree.Get.
-/
import Derived.Test.YtkonlklieacjoaaDoorRcv
import Derived.Test.YtkonlklieacjoaaDoorRcc
set_option linter.unusedSimpArgs false
set_option linter.unusedVariables false
set_option maxRecDepth 20000
namespace Go.Proofs.YtkonlklieacjoaaDoor
open Go Go.Eng Go.RowKit Go.Tr
set_option maxHeartbeats 4000000 in
theorem zE9 (t : List Ent) (p : ByteArray) (hr : gU t) (hl : t.length ≤ 140737488355328) : HFun Tryd.prog 80 [.lst false (aH t), .v (.string p), .v (.func (.func 81) #[] #[])] (fun h st => h = .tup [.v (.int .i64 (aQ t p)), .v (.bool (dD t p))]) := by
 refine eK (N := 49) Tryd.func80 rfl Tryd.ntmps80 Tryd.results80 (by simp) ?_
 obtain ⟨p1, p2⟩ := pD hr p
 have pl := qCm t p
 refine zE ?_; refine zJ (fun K hK => ?_); simp (maxSteps := 2000000) (disch := omega) only [push_cast, ↓Int.cast_ofNat_Int, Nat.reduceBEq, Nat.reduceAdd, Nat.reduceLT, Nat.reduceEqDiff, reduceIte, reduceCtorEq, Nat.reduceLeDiff, Nat.reduceSub, List.reduceReplicate, Nat.reduceMul, Int.reduceToNat, Nat.reducePow]; refine hK _ ?_; clear hK K
 refine zE ?_; refine zJ (fun K hK => ?_); simp (maxSteps := 2000000) (disch := omega) only [push_cast, ↓Int.cast_ofNat_Int, Nat.reduceBEq, Nat.reduceAdd, Nat.reduceLT, Nat.reduceEqDiff, reduceIte, reduceCtorEq, Nat.reduceLeDiff, Nat.reduceSub, List.reduceReplicate, Nat.reduceMul, Int.reduceToNat, Nat.reducePow, yV]; refine hK _ ?_; clear hK K
 refine zE ?_; refine zJ (fun K hK => ?_); simp (maxSteps := 2000000) (disch := omega) only [push_cast, ↓Int.cast_ofNat_Int, Nat.reduceBEq, Nat.reduceAdd, Nat.reduceLT, Nat.reduceEqDiff, reduceIte, reduceCtorEq, Nat.reduceLeDiff, Nat.reduceSub, List.reduceReplicate, Nat.reduceMul, Int.reduceToNat, Nat.reducePow, yV]; refine hK _ ?_; clear hK K
 refine zE ?_; refine zD ?_
 refine bM (fun x : Nat × Nat => ⟨[(0, .lst false (aH t)), (1, .v (.string p)), (2, .v (.func (.func 81) #[] #[])), (8, .v (.int .i64 t.length)), (9, .v (.int .i64 x.1)), (10, .v (.int .i64 x.2))], []⟩)
  (fun x => x.1 ≤ aQ t p ∧ aQ t p ≤ x.2 ∧ x.2 ≤ t.length) (fun x => x.2 - x.1) [0, 1, 2, 8, 9, 10] [] (0, t.length) rfl ⟨Nat.zero_le _, pl, Nat.le_refl _⟩ ?_
 rintro ⟨i, j⟩ ⟨h1, h2, h3⟩
 simp only at h1 h2 h3
 by_cases hlt : i < j
 ·refine zE ?_; refine zE ?_; refine zJ (fun K hK => ?_); simp (maxSteps := 2000000) (disch := omega) only [push_cast, ↓Int.cast_ofNat_Int, Nat.reduceBEq, Nat.reduceAdd, Nat.reduceLT, Nat.reduceEqDiff, reduceIte, reduceCtorEq, Nat.reduceLeDiff, Nat.reduceSub, List.reduceReplicate, Nat.reduceMul, Int.reduceToNat, Nat.reducePow]; refine hK _ ?_; clear hK K
  refine zA ?_
  refine yD rfl ?_
  refine zC ?_; refine zA ?_
  obtain ⟨m, hm⟩ : ∃ m, m = (i + j) / 2 := ⟨_, rfl⟩
  have he : IntKind.i64.wrap ((IntKind.u64.wrap ((i : Int) + j)).fdiv (2 ^ min 1 IntKind.u64.bits)) = (m : Int) := by
   have hw : IntKind.u64.wrap ((i : Int) + j) = (i : Int) + j := by rw [IntKind.wrap_u64]; omega
   rw [hw, show (2 ^ min 1 IntKind.u64.bits : Int) = 2 from rfl, Int.fdiv_eq_ediv_of_nonneg _ (by omega)]
   rw [show ((i : Int) + j) / 2 = (m : Int) by omega]
   exact qA1 (by omega) (by omega)
  have hmt : m < t.length := by omega
  refine zD ?_; refine zE ?_; refine zJ (fun K hK => ?_); simp (maxSteps := 2000000) (disch := omega) only [push_cast, ↓Int.cast_ofNat_Int, Nat.reduceBEq, Nat.reduceAdd, Nat.reduceLT, Nat.reduceEqDiff, reduceIte, reduceCtorEq, Nat.reduceLeDiff, Nat.reduceSub, List.reduceReplicate, Nat.reduceMul, Int.reduceToNat, Nat.reducePow]
  rw [he]
  refine ⟨by omega, hK _ ?_⟩
  clear hK K he
  refine zE ?_; refine zJ (fun K hK => ?_); simp (maxSteps := 2000000) (disch := omega) only [push_cast, ↓Int.cast_ofNat_Int, Nat.reduceBEq, Nat.reduceAdd, Nat.reduceLT, Nat.reduceEqDiff, reduceIte, reduceCtorEq, Nat.reduceLeDiff, Nat.reduceSub, List.reduceReplicate, Nat.reduceMul, Int.reduceToNat, Nat.reducePow, yV, yU, yW hmt]
  refine bV zN6 (qMl t[m] p) (.cons (qJ1 _) (.cons (.v _) .nil)) ?_
  have hb := zLp t[m].1 p
  cases hc : blt t[m].1 p with
  | true =>
   rw [hc, decide_eq_true_iff] at hb
   have : m < aQ t p := by
    rcases Nat.lt_or_ge m (aQ t p) with h | h
    ·exact h
    ·rw [p2 m hmt h] at hc; cases hc
   with_reducible refine aB ?_; simp (maxSteps := 2000000) (disch := omega) only [push_cast, ↓Int.cast_ofNat_Int, Nat.reduceBEq, Nat.reduceAdd, Nat.reduceLT, Nat.reduceEqDiff, reduceIte, reduceCtorEq, Nat.reduceLeDiff, Nat.reduceSub, List.reduceReplicate, Nat.reduceMul, Int.reduceToNat, Nat.reducePow]
   refine hK _ ?_; clear hK K
   refine zA ?_
   refine yD rfl ?_
   skip
   refine zJ (fun K hK => ?_); simp (maxSteps := 2000000) (disch := omega) only [push_cast, ↓Int.cast_ofNat_Int, Nat.reduceBEq, Nat.reduceAdd, Nat.reduceLT, Nat.reduceEqDiff, reduceIte, reduceCtorEq, Nat.reduceLeDiff, Nat.reduceSub, List.reduceReplicate, Nat.reduceMul, Int.reduceToNat, Nat.reducePow]; refine hK _ ?_; clear hK K
   refine zB ?_; refine zA ?_
   exact ⟨(m + 1, j), rfl, ⟨by dsimp only; omega, h2, h3⟩, by dsimp only; omega⟩
  | false =>
   rw [hc, decide_eq_false_iff_not] at hb
   have : aQ t p ≤ m := by
    rcases Nat.lt_or_ge m (aQ t p) with h | h
    ·rw [p1 m hmt h] at hc; cases hc
    ·exact h
   with_reducible refine aB ?_; simp (maxSteps := 2000000) (disch := omega) only [push_cast, ↓Int.cast_ofNat_Int, Nat.reduceBEq, Nat.reduceAdd, Nat.reduceLT, Nat.reduceEqDiff, reduceIte, reduceCtorEq, Nat.reduceLeDiff, Nat.reduceSub, List.reduceReplicate, Nat.reduceMul, Int.reduceToNat, Nat.reducePow]
   refine hK _ ?_; clear hK K
   refine zA ?_
   refine yC rfl ?_
   skip
   refine zJ (fun K hK => ?_); simp (maxSteps := 2000000) (disch := omega) only [push_cast, ↓Int.cast_ofNat_Int, Nat.reduceBEq, Nat.reduceAdd, Nat.reduceLT, Nat.reduceEqDiff, reduceIte, reduceCtorEq, Nat.reduceLeDiff, Nat.reduceSub, List.reduceReplicate, Nat.reduceMul, Int.reduceToNat, Nat.reducePow]; refine hK _ ?_; clear hK K
   refine zB ?_; refine zA ?_
   exact ⟨(i, m), rfl, ⟨h1, this, by dsimp only; omega⟩, by dsimp only; omega⟩
 ·have hij : i = aQ t p ∧ j = aQ t p := by omega
  obtain ⟨rfl, rfl⟩ := hij
  refine zE ?_; refine zE ?_; refine zJ (fun K hK => ?_); simp (maxSteps := 2000000) (disch := omega) only [push_cast, ↓Int.cast_ofNat_Int, Nat.reduceBEq, Nat.reduceAdd, Nat.reduceLT, Nat.reduceEqDiff, reduceIte, reduceCtorEq, Nat.reduceLeDiff, Nat.reduceSub, List.reduceReplicate, Nat.reduceMul, Int.reduceToNat, Nat.reducePow]; refine hK _ ?_; clear hK K
  refine zA ?_
  refine yC rfl ?_
  refine zT ?_; refine zG ?_; refine zG ?_; refine zH ?_; refine zE ?_
  have th := fC hr p
  by_cases hp : aQ t p < t.length
  ·have hb := zLq t[aQ t p].1 p
   by_cases hc : t[aQ t p].1 = p
   ·rw [decide_eq_true hc, decide_eq_true_iff] at hb
    rw [decide_eq_true ⟨hp, hc⟩] at th
    rw [th]
    refine zJ (fun K hK => ?_); simp (maxSteps := 2000000) (disch := omega) only [push_cast, ↓Int.cast_ofNat_Int, Nat.reduceBEq, Nat.reduceAdd, Nat.reduceLT, Nat.reduceEqDiff, reduceIte, reduceCtorEq, Nat.reduceLeDiff, Nat.reduceSub, List.reduceReplicate, Nat.reduceMul, Int.reduceToNat, Nat.reducePow, yV, yU, yW hp]
    refine bV zN6 (qMl t[aQ t p] p) (.cons (qJ1 _) (.cons (.v _) .nil)) ?_
    with_reducible refine aB ?_; simp (maxSteps := 2000000) (disch := omega) only [push_cast, ↓Int.cast_ofNat_Int, Nat.reduceBEq, Nat.reduceAdd, Nat.reduceLT, Nat.reduceEqDiff, reduceIte, reduceCtorEq, Nat.reduceLeDiff, Nat.reduceSub, List.reduceReplicate, Nat.reduceMul, Int.reduceToNat, Nat.reducePow]
    refine hK _ ?_; clear hK K
    refine zA ?_; refine zW ?_
    simp only [yA, yM, yH, yE, aA, aC, yK, yJ, zS, zM, Nat.reduceEqDiff, reduceIte, reduceCtorEq]
    exact uH rfl
   ·rw [decide_eq_false hc, decide_eq_false_iff_not] at hb
    rw [decide_eq_false (fun ⟨_, h⟩ => hc h)] at th
    rw [th]
    refine zJ (fun K hK => ?_); simp (maxSteps := 2000000) (disch := omega) only [push_cast, ↓Int.cast_ofNat_Int, Nat.reduceBEq, Nat.reduceAdd, Nat.reduceLT, Nat.reduceEqDiff, reduceIte, reduceCtorEq, Nat.reduceLeDiff, Nat.reduceSub, List.reduceReplicate, Nat.reduceMul, Int.reduceToNat, Nat.reducePow, yV, yU, yW hp]
    refine bV zN6 (qMl t[aQ t p] p) (.cons (qJ1 _) (.cons (.v _) .nil)) ?_
    with_reducible refine aB ?_; simp (maxSteps := 2000000) (disch := omega) only [push_cast, ↓Int.cast_ofNat_Int, Nat.reduceBEq, Nat.reduceAdd, Nat.reduceLT, Nat.reduceEqDiff, reduceIte, reduceCtorEq, Nat.reduceLeDiff, Nat.reduceSub, List.reduceReplicate, Nat.reduceMul, Int.reduceToNat, Nat.reducePow]
    refine hK _ ?_; clear hK K
    refine zA ?_; refine zW ?_
    simp only [yA, yM, yH, yE, aA, aC, yK, yJ, zS, zM, Nat.reduceEqDiff, reduceIte, reduceCtorEq]
    exact uH rfl
  ·rw [decide_eq_false (fun ⟨h, _⟩ => hp h)] at th
   rw [th]
   refine zJ (fun K hK => ?_); simp (maxSteps := 2000000) (disch := omega) only [push_cast, ↓Int.cast_ofNat_Int, Nat.reduceBEq, Nat.reduceAdd, Nat.reduceLT, Nat.reduceEqDiff, reduceIte, reduceCtorEq, Nat.reduceLeDiff, Nat.reduceSub, List.reduceReplicate, Nat.reduceMul, Int.reduceToNat, Nat.reducePow]; refine hK _ ?_; clear hK K
   refine zA ?_; refine zW ?_
   simp only [yA, yM, yH, yE, aA, aC, yK, yJ, zS, zM, Nat.reduceEqDiff, reduceIte, reduceCtorEq]
   exact uH rfl
set_option maxHeartbeats 1000000 in
theorem zJb (t : List Ent) (p : ByteArray) (hr : gU t) (hl : t.length ≤ 140737488355328) : HFun Tryd.prog 53 [.lst false (aH t), .v (.string p)] (fun h st => h = .tup [.v (.int .i64 (aQ t p)), .v (.bool (dD t p))]) := by
 refine eK (N := 11) Tryd.func53 rfl Tryd.ntmps53 Tryd.results53 (by simp) ?_
 refine zE ?_; refine zJ (fun K hK => ?_); simp (maxSteps := 2000000) (disch := omega) only [push_cast, ↓Int.cast_ofNat_Int, Nat.reduceBEq, Nat.reduceAdd, Nat.reduceLT, Nat.reduceEqDiff, reduceIte, reduceCtorEq, Nat.reduceLeDiff, Nat.reduceSub, List.reduceReplicate, Nat.reduceMul, Int.reduceToNat, Nat.reducePow]; refine hK _ ?_; clear hK K
 refine zE ?_; refine zJ (fun K hK => ?_); simp (maxSteps := 2000000) (disch := omega) only [push_cast, ↓Int.cast_ofNat_Int, Nat.reduceBEq, Nat.reduceAdd, Nat.reduceLT, Nat.reduceEqDiff, reduceIte, reduceCtorEq, Nat.reduceLeDiff, Nat.reduceSub, List.reduceReplicate, Nat.reduceMul, Int.reduceToNat, Nat.reducePow]
 refine zNx (xs := [.int .i64 (aQ t p), .bool (dD t p)]) zRq (zE9 t p hr hl) (.cons (aN (yT _)) (.cons (.v _) (.cons (.v _) .nil))) ?_
 with_reducible refine aB ?_; simp (maxSteps := 2000000) (disch := omega) only [push_cast, ↓Int.cast_ofNat_Int, Nat.reduceBEq, Nat.reduceAdd, Nat.reduceLT, Nat.reduceEqDiff, reduceIte, reduceCtorEq, Nat.reduceLeDiff, Nat.reduceSub, List.reduceReplicate, Nat.reduceMul, Int.reduceToNat, Nat.reducePow]
 refine hK _ ?_; clear hK K
 refine zA ?_; refine zW ?_
 simp only [yA, yM, yH, yE, aA, aC, yK, yJ, zS, zM, Nat.reduceEqDiff, reduceIte, reduceCtorEq]
 exact uH rfl
set_option maxHeartbeats 1000000 in
theorem zM5 (t : List Ent) (p : ByteArray) (hr : gU t) (hl : t.length ≤ 140737488355328) : HFun Tryd.prog 25 [.lst false (aH t), .v (.string p)] (fun h st => h = nL (bW t p) ∧ st = []) := by
 refine eK (N := 20) Tryd.func25 rfl Tryd.ntmps25 Tryd.results25 (by simp) ?_
 rw [qY4 hr p]
 refine zE ?_; refine zJ (fun K hK => ?_); simp (maxSteps := 2000000) (disch := omega) only [push_cast, ↓Int.cast_ofNat_Int, Nat.reduceBEq, Nat.reduceAdd, Nat.reduceLT, Nat.reduceEqDiff, reduceIte, reduceCtorEq, Nat.reduceLeDiff, Nat.reduceSub, List.reduceReplicate, Nat.reduceMul, Int.reduceToNat, Nat.reducePow]; refine hK _ ?_; clear hK K
 refine zE ?_; refine zE ?_; refine zJ (fun K hK => ?_); simp (maxSteps := 2000000) (disch := omega) only [push_cast, ↓Int.cast_ofNat_Int, Nat.reduceBEq, Nat.reduceAdd, Nat.reduceLT, Nat.reduceEqDiff, reduceIte, reduceCtorEq, Nat.reduceLeDiff, Nat.reduceSub, List.reduceReplicate, Nat.reduceMul, Int.reduceToNat, Nat.reducePow]
 refine zNx (xs := [.int .i64 (aQ t p), .bool (dD t p)]) zQw (zJb t p hr hl) (.cons (aN (yT _)) (.cons (.v _) .nil)) ?_
 with_reducible refine aB ?_; simp (maxSteps := 2000000) (disch := omega) only [push_cast, ↓Int.cast_ofNat_Int, Nat.reduceBEq, Nat.reduceAdd, Nat.reduceLT, Nat.reduceEqDiff, reduceIte, reduceCtorEq, Nat.reduceLeDiff, Nat.reduceSub, List.reduceReplicate, Nat.reduceMul, Int.reduceToNat, Nat.reducePow]
 refine hK _ ?_; clear hK K
 refine zE ?_; refine zJ (fun K hK => ?_); simp (maxSteps := 2000000) (disch := omega) only [push_cast, ↓Int.cast_ofNat_Int, Nat.reduceBEq, Nat.reduceAdd, Nat.reduceLT, Nat.reduceEqDiff, reduceIte, reduceCtorEq, Nat.reduceLeDiff, Nat.reduceSub, List.reduceReplicate, Nat.reduceMul, Int.reduceToNat, Nat.reducePow]; refine hK _ ?_; clear hK K
 have tp := fC hr p
 by_cases h : aQ t p < t.length ∧ dD t p = true
 ·rw [dif_pos h]
  have hlt := h.1
  have ht := h.2
  refine qDs rfl (fun _ => ?_) (fun e => by rw [ht] at e; cases e)
  refine zE ?_; refine zJ (fun K hK => ?_); simp (maxSteps := 2000000) (disch := omega) only [push_cast, ↓Int.cast_ofNat_Int, Nat.reduceBEq, Nat.reduceAdd, Nat.reduceLT, Nat.reduceEqDiff, reduceIte, reduceCtorEq, Nat.reduceLeDiff, Nat.reduceSub, List.reduceReplicate, Nat.reduceMul, Int.reduceToNat, Nat.reducePow, yV, yU, yW hlt]; refine hK _ ?_; clear hK K
  refine zA ?_; refine zW ?_; refine zK ?_
  simp (maxSteps := 2000000) (disch := omega) only [yA, yM, yH, yE, aA, aC, yK, yJ, push_cast, ↓Int.cast_ofNat_Int, Nat.reduceBEq, Nat.reduceAdd, Nat.reduceLT, Nat.reduceEqDiff, reduceIte, reduceCtorEq, Nat.reduceLeDiff, Nat.reduceSub, List.reduceReplicate, Nat.reduceMul, Int.reduceToNat, Int.toNat_natCast, Nat.reducePow, reduceIte]
  exact yX (n := t[aQ t p].2) ⟨rfl, rfl⟩
 ·rw [dif_neg h]
  have ht : dD t p = false := by
   cases e : dD t p with
   | false => rfl
   | true =>
    have tp := fC hr p
    rw [e] at tp
    exact (h ⟨(decide_eq_true_iff.1 tp.symm).1, e⟩).elim
  refine qDs rfl (fun e => by rw [ht] at e; cases e) (fun _ => ?_)
  refine zC ?_; refine zE ?_; refine zJ (fun K hK => ?_); simp (maxSteps := 2000000) (disch := omega) only [push_cast, ↓Int.cast_ofNat_Int, Nat.reduceBEq, Nat.reduceAdd, Nat.reduceLT, Nat.reduceEqDiff, reduceIte, reduceCtorEq, Nat.reduceLeDiff, Nat.reduceSub, List.reduceReplicate, Nat.reduceMul, Int.reduceToNat, Nat.reducePow]; refine hK _ ?_; clear hK K
  refine zA ?_; refine zW ?_
  simp (maxSteps := 2000000) (disch := omega) only [yA, yM, yH, yE, aA, aC, yK, yJ, push_cast, ↓Int.cast_ofNat_Int, Nat.reduceBEq, Nat.reduceAdd, Nat.reduceLT, Nat.reduceEqDiff, reduceIte, reduceCtorEq, Nat.reduceLeDiff, Nat.reduceSub, List.reduceReplicate, Nat.reduceMul, Int.reduceToNat, Int.toNat_natCast, Nat.reducePow, reduceIte]
  exact yX (n := qQ) ⟨rfl, rfl⟩
end Go.Proofs.YtkonlklieacjoaaDoor
