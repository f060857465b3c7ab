/-
  tree.Diff, tree.Same, walked.
-/
import Derived.Test.YtkonlklieacjoaaDoorTrO
import Derived.Test.YtkonlklieacjoaaDoorTrU
import Derived.Test.YtkonlklieacjoaaDoorChn
set_option linter.unusedSimpArgs false
set_option linter.unusedVariables false
set_option maxRecDepth 20000
namespace Go.Tr
open Go Go.Eng
theorem ents_get0 (x : Ent) (r : List Ent) {d : List FV} : (ents (x :: r)).getD 0 d = [.v (.string x.1), .v (.int .i64 x.2.1), .v (.string x.2.2)] := rfl
theorem ents_lenc (x : Ent) (r : List Ent) : (ents (x :: r)).length = r.length + 1 := by simp [ents]
theorem ents_tail (x : Ent) (r : List Ent) : ((ents (x :: r)).take (r.length + 1)).drop 1 = ents r := by
 rw [List.take_of_length_le (by rw [ents_lenc]; omega)]; rfl
end Go.Tr
namespace Go.Proofs.YtkonlklieacjoaaDoor
open Go Go.Eng Go.RowKit Go.Tr
set_option maxHeartbeats 8000000 in
theorem diff_H (a b : List Ent) (hl : a.length + b.length ≤ 2097152) : HFun Tryd.prog 32 [.lst false (ents a), .lst false (ents b)] (fun h st => h = .own 0 ∧ st = [(0, .sl true 9 1 (strs (diffS a b)))]) := by
 refine hfun (N := 89) Tryd.func32 rfl Tryd.ntmps32 Tryd.results32 (by simp) ?_
 (repeat first | refine zE ?_ | refine zA ?_ | refine zC ?_ | refine zB ?_ | refine zD ?_); refine zJ (fun K hK => ?_); simp (maxSteps := 2000000) (disch := omega) only [push_cast, ↓Int.cast_ofNat_Int, Nat.reduceBEq, Nat.reduceAdd, Nat.reduceLT, Nat.reduceEqDiff, reduceIte, reduceCtorEq, Nat.reduceLeDiff, Nat.reduceSub, List.reduceReplicate, Nat.reduceMul, Int.reduceToNat, Int.toNat_natCast, Nat.reducePow, reduceIte]; refine hK _ ?_; clear hK K
 (repeat first | refine zE ?_ | refine zA ?_ | refine zC ?_ | refine zB ?_ | refine zD ?_); refine zJ (fun K hK => ?_); simp (maxSteps := 2000000) (disch := omega) only [push_cast, ↓Int.cast_ofNat_Int, Nat.reduceBEq, Nat.reduceAdd, Nat.reduceLT, Nat.reduceEqDiff, reduceIte, reduceCtorEq, Nat.reduceLeDiff, Nat.reduceSub, List.reduceReplicate, Nat.reduceMul, Int.reduceToNat, Int.toNat_natCast, Nat.reducePow, reduceIte]; refine hK _ ?_; clear hK K
 (repeat first | refine zE ?_ | refine zA ?_ | refine zC ?_ | refine zB ?_ | refine zD ?_)
 refine HW_loop (fun x : List Ent × List Ent × List ByteArray => ⟨[(0, .lst false (ents x.1)), (1, .lst false (ents x.2.1)), (5, .own 48)], [(48, .sl true 9 1 (strs x.2.2))]⟩)
  (fun x => x.2.2 ++ diffS x.1 x.2.1 = diffS a b ∧ x.2.2.length + x.1.length + x.2.1.length ≤ a.length + b.length) (fun x => x.1.length + x.2.1.length) [0, 1, 5] [48] (a, b, []) (by simp only [zZ, zR, zP, zQ, zN, zS, zM, zX, zU, Nat.reduceEqDiff, reduceIte]; rfl) ⟨rfl, by simp⟩ ?_
 rintro ⟨x, y, out⟩ ⟨hd, hs⟩
 simp only at hd hs
 have en : (ents []).length = 0 := rfl
 cases x with
 | nil =>
  cases y with
  | nil =>
   rw [diffS_nn, List.append_nil] at hd
   rw [hd]
   (repeat first | refine zE ?_ | refine zA ?_ | refine zC ?_ | refine zB ?_ | refine zD ?_); refine zJ (fun K hK => ?_); simp (maxSteps := 2000000) (disch := omega) only [push_cast, ↓Int.cast_ofNat_Int, Nat.reduceBEq, Nat.reduceAdd, Nat.reduceLT, Nat.reduceEqDiff, reduceIte, reduceCtorEq, Nat.reduceLeDiff, Nat.reduceSub, List.reduceReplicate, Nat.reduceMul, Int.reduceToNat, Int.toNat_natCast, Nat.reducePow, reduceIte, en]; refine hK _ ?_; clear hK K
   (repeat first | refine zE ?_ | refine zA ?_ | refine zC ?_ | refine zB ?_ | refine zD ?_)
   refine yC rfl ?_
   (repeat first | refine zK ?_ | refine zG ?_ | refine zH ?_ | refine zF rfl ?_ | refine zL ?_ | refine zB ?_ | refine zE ?_ | refine zA ?_ | refine zC ?_ | refine zT ?_ | refine zW ?_)
   (repeat first | refine zE ?_ | refine zA ?_ | refine zC ?_ | refine zB ?_ | refine zD ?_); refine zJ (fun K hK => ?_); simp (maxSteps := 2000000) (disch := omega) only [push_cast, ↓Int.cast_ofNat_Int, Nat.reduceBEq, Nat.reduceAdd, Nat.reduceLT, Nat.reduceEqDiff, reduceIte, reduceCtorEq, Nat.reduceLeDiff, Nat.reduceSub, List.reduceReplicate, Nat.reduceMul, Int.reduceToNat, Int.toNat_natCast, Nat.reducePow, reduceIte]; refine hK _ ?_; clear hK K
   (repeat first | refine zK ?_ | refine zG ?_ | refine zH ?_ | refine zF rfl ?_ | refine zL ?_ | refine zB ?_ | refine zE ?_ | refine zA ?_ | refine zC ?_ | refine zT ?_ | refine zW ?_)
   simp only [yA, yM, yH, yE, resH_cell, resC_go, yK, yJ, zS, zM, Nat.reduceEqDiff, reduceIte, reduceCtorEq]
   exact hres_o rfl (strs_fresh _) ⟨rfl, rfl⟩
  | cons q y =>
   rw [diffS_nc] at hd
   simp only [List.length_cons, List.length_nil] at hs
   (repeat first | refine zE ?_ | refine zA ?_ | refine zC ?_ | refine zB ?_ | refine zD ?_); refine zJ (fun K hK => ?_); simp (maxSteps := 2000000) (disch := omega) only [push_cast, ↓Int.cast_ofNat_Int, Nat.reduceBEq, Nat.reduceAdd, Nat.reduceLT, Nat.reduceEqDiff, reduceIte, reduceCtorEq, Nat.reduceLeDiff, Nat.reduceSub, List.reduceReplicate, Nat.reduceMul, Int.reduceToNat, Int.toNat_natCast, Nat.reducePow, reduceIte, en, ents_lenc]; refine hK _ ?_; clear hK K
   (repeat first | refine zE ?_ | refine zA ?_ | refine zC ?_ | refine zB ?_ | refine zD ?_)
   refine yD rfl ?_
   (repeat first | refine zK ?_ | refine zG ?_ | refine zH ?_ | refine zF rfl ?_ | refine zL ?_ | refine zB ?_ | refine zE ?_ | refine zA ?_ | refine zC ?_ | refine zT ?_ | refine zW ?_)
   (repeat first | refine zE ?_ | refine zA ?_ | refine zC ?_ | refine zB ?_ | refine zD ?_); refine HW_drw2 20 mixed (by kernel_rfl) (fun K hK K1 hK1 => ?_); simp (maxSteps := 2000000) (disch := omega) only [push_cast, ↓Int.cast_ofNat_Int, Nat.reduceBEq, Nat.reduceAdd, Nat.reduceLT, Nat.reduceEqDiff, reduceIte, reduceCtorEq, Nat.reduceLeDiff, Nat.reduceSub, List.reduceReplicate, Nat.reduceMul, Int.reduceToNat, Int.toNat_natCast, Nat.reducePow, reduceIte, en, ents_lenc]
   refine hK1 _ ?_; clear hK1 K1; with_reducible refine hstop ?_; simp (maxSteps := 2000000) (disch := omega) only [push_cast, ↓Int.cast_ofNat_Int, Nat.reduceBEq, Nat.reduceAdd, Nat.reduceLT, Nat.reduceEqDiff, reduceIte, reduceCtorEq, Nat.reduceLeDiff, Nat.reduceSub, List.reduceReplicate, Nat.reduceMul, Int.reduceToNat, Int.toNat_natCast, Nat.reducePow, reduceIte, en, ents_lenc]
   refine hK _ ?_; clear hK K
   refine yC rfl ?_
   (repeat first | refine zE ?_ | refine zA ?_ | refine zC ?_ | refine zB ?_ | refine zD ?_); refine HW_drw2 15 mixed (by kernel_rfl) (fun K hK K1 hK1 => ?_); simp (maxSteps := 2000000) (disch := omega) only [push_cast, ↓Int.cast_ofNat_Int, Nat.reduceBEq, Nat.reduceAdd, Nat.reduceLT, Nat.reduceEqDiff, reduceIte, reduceCtorEq, Nat.reduceLeDiff, Nat.reduceSub, List.reduceReplicate, Nat.reduceMul, Int.reduceToNat, Int.toNat_natCast, Nat.reducePow, reduceIte, en, ents_lenc]
   refine hK1 _ ?_; clear hK1 K1; with_reducible refine hstop ?_; simp (maxSteps := 2000000) (disch := omega) only [push_cast, ↓Int.cast_ofNat_Int, Nat.reduceBEq, Nat.reduceAdd, Nat.reduceLT, Nat.reduceEqDiff, reduceIte, reduceCtorEq, Nat.reduceLeDiff, Nat.reduceSub, List.reduceReplicate, Nat.reduceMul, Int.reduceToNat, Int.toNat_natCast, Nat.reducePow, reduceIte, en, ents_lenc]
   refine hK _ ?_; clear hK K
   refine yD rfl ?_
   (repeat first | refine zE ?_ | refine zA ?_ | refine zC ?_ | refine zB ?_ | refine zD ?_); refine zJ (fun K hK => ?_); simp (maxSteps := 2000000) (disch := omega) only [push_cast, ↓Int.cast_ofNat_Int, Nat.reduceBEq, Nat.reduceAdd, Nat.reduceLT, Nat.reduceEqDiff, reduceIte, reduceCtorEq, Nat.reduceLeDiff, Nat.reduceSub, List.reduceReplicate, Nat.reduceMul, Int.reduceToNat, Int.toNat_natCast, Nat.reducePow, reduceIte, yU, ents_get0, ents_lenc, strs_snoc, strs_len]; (repeat refine ⟨by first | omega | decide | ((repeat' apply And.intro) <;> first | omega | decide), ?_⟩); refine hK _ ?_; clear hK K
   (repeat first | refine zE ?_ | refine zA ?_ | refine zC ?_ | refine zB ?_ | refine zD ?_); refine zJ (fun K hK => ?_); simp (maxSteps := 2000000) (disch := omega) only [push_cast, ↓Int.cast_ofNat_Int, Nat.reduceBEq, Nat.reduceAdd, Nat.reduceLT, Nat.reduceEqDiff, reduceIte, reduceCtorEq, Nat.reduceLeDiff, Nat.reduceSub, List.reduceReplicate, Nat.reduceMul, Int.reduceToNat, Int.toNat_natCast, Nat.reducePow, reduceIte, yU, ents_lenc, ents_tail]; (repeat refine ⟨by first | omega | decide | ((repeat' apply And.intro) <;> first | omega | decide), ?_⟩); refine hK _ ?_; clear hK K
   (repeat first | refine zK ?_ | refine zG ?_ | refine zH ?_ | refine zF rfl ?_ | refine zL ?_ | refine zB ?_ | refine zE ?_ | refine zA ?_ | refine zC ?_ | refine zT ?_ | refine zW ?_)
   exact ⟨([], y, out ++ [q.1]), by simp only [zZ, zR, zP, zQ, zN, zS, zM, zX, zU, Nat.reduceEqDiff, reduceIte]; try rfl, ⟨by dsimp only; rw [← hd]; simp, by dsimp only; simp; omega⟩, by dsimp only; simp⟩
 | cons p x =>
  cases y with
  | nil =>
   rw [diffS_cn] at hd
   simp only [List.length_cons, List.length_nil] at hs
   (repeat first | refine zE ?_ | refine zA ?_ | refine zC ?_ | refine zB ?_ | refine zD ?_); refine zJ (fun K hK => ?_); simp (maxSteps := 2000000) (disch := omega) only [push_cast, ↓Int.cast_ofNat_Int, Nat.reduceBEq, Nat.reduceAdd, Nat.reduceLT, Nat.reduceEqDiff, reduceIte, reduceCtorEq, Nat.reduceLeDiff, Nat.reduceSub, List.reduceReplicate, Nat.reduceMul, Int.reduceToNat, Int.toNat_natCast, Nat.reducePow, reduceIte, en, ents_lenc]; refine hK _ ?_; clear hK K
   (repeat first | refine zE ?_ | refine zA ?_ | refine zC ?_ | refine zB ?_ | refine zD ?_)
   refine yD rfl ?_
   (repeat first | refine zK ?_ | refine zG ?_ | refine zH ?_ | refine zF rfl ?_ | refine zL ?_ | refine zB ?_ | refine zE ?_ | refine zA ?_ | refine zC ?_ | refine zT ?_ | refine zW ?_)
   (repeat first | refine zE ?_ | refine zA ?_ | refine zC ?_ | refine zB ?_ | refine zD ?_); refine HW_drw2 20 mixed (by kernel_rfl) (fun K hK K1 hK1 => ?_); simp (maxSteps := 2000000) (disch := omega) only [push_cast, ↓Int.cast_ofNat_Int, Nat.reduceBEq, Nat.reduceAdd, Nat.reduceLT, Nat.reduceEqDiff, reduceIte, reduceCtorEq, Nat.reduceLeDiff, Nat.reduceSub, List.reduceReplicate, Nat.reduceMul, Int.reduceToNat, Int.toNat_natCast, Nat.reducePow, reduceIte, en, ents_lenc]
   refine hK1 _ ?_; clear hK1 K1; with_reducible refine hstop ?_; simp (maxSteps := 2000000) (disch := omega) only [push_cast, ↓Int.cast_ofNat_Int, Nat.reduceBEq, Nat.reduceAdd, Nat.reduceLT, Nat.reduceEqDiff, reduceIte, reduceCtorEq, Nat.reduceLeDiff, Nat.reduceSub, List.reduceReplicate, Nat.reduceMul, Int.reduceToNat, Int.toNat_natCast, Nat.reducePow, reduceIte, en, ents_lenc]
   refine hK _ ?_; clear hK K
   refine yD rfl ?_
   (repeat first | refine zE ?_ | refine zA ?_ | refine zC ?_ | refine zB ?_ | refine zD ?_); refine zJ (fun K hK => ?_); simp (maxSteps := 2000000) (disch := omega) only [push_cast, ↓Int.cast_ofNat_Int, Nat.reduceBEq, Nat.reduceAdd, Nat.reduceLT, Nat.reduceEqDiff, reduceIte, reduceCtorEq, Nat.reduceLeDiff, Nat.reduceSub, List.reduceReplicate, Nat.reduceMul, Int.reduceToNat, Int.toNat_natCast, Nat.reducePow, reduceIte, yU, ents_get0, ents_lenc, strs_snoc, strs_len]; (repeat refine ⟨by first | omega | decide | ((repeat' apply And.intro) <;> first | omega | decide), ?_⟩); refine hK _ ?_; clear hK K
   (repeat first | refine zE ?_ | refine zA ?_ | refine zC ?_ | refine zB ?_ | refine zD ?_); refine zJ (fun K hK => ?_); simp (maxSteps := 2000000) (disch := omega) only [push_cast, ↓Int.cast_ofNat_Int, Nat.reduceBEq, Nat.reduceAdd, Nat.reduceLT, Nat.reduceEqDiff, reduceIte, reduceCtorEq, Nat.reduceLeDiff, Nat.reduceSub, List.reduceReplicate, Nat.reduceMul, Int.reduceToNat, Int.toNat_natCast, Nat.reducePow, reduceIte, yU, ents_lenc, ents_tail]; (repeat refine ⟨by first | omega | decide | ((repeat' apply And.intro) <;> first | omega | decide), ?_⟩); refine hK _ ?_; clear hK K
   (repeat first | refine zK ?_ | refine zG ?_ | refine zH ?_ | refine zF rfl ?_ | refine zL ?_ | refine zB ?_ | refine zE ?_ | refine zA ?_ | refine zC ?_ | refine zT ?_ | refine zW ?_)
   exact ⟨(x, [], out ++ [p.1]), by simp only [zZ, zR, zP, zQ, zN, zS, zM, zX, zU, Nat.reduceEqDiff, reduceIte]; try rfl, ⟨by dsimp only; rw [← hd]; simp, by dsimp only; simp; omega⟩, by dsimp only; simp⟩
  | cons q y =>
   simp only [List.length_cons] at hs
   (repeat first | refine zE ?_ | refine zA ?_ | refine zC ?_ | refine zB ?_ | refine zD ?_); refine zJ (fun K hK => ?_); simp (maxSteps := 2000000) (disch := omega) only [push_cast, ↓Int.cast_ofNat_Int, Nat.reduceBEq, Nat.reduceAdd, Nat.reduceLT, Nat.reduceEqDiff, reduceIte, reduceCtorEq, Nat.reduceLeDiff, Nat.reduceSub, List.reduceReplicate, Nat.reduceMul, Int.reduceToNat, Int.toNat_natCast, Nat.reducePow, reduceIte, en, ents_lenc]; refine hK _ ?_; clear hK K
   (repeat first | refine zE ?_ | refine zA ?_ | refine zC ?_ | refine zB ?_ | refine zD ?_)
   refine yD rfl ?_
   (repeat first | refine zK ?_ | refine zG ?_ | refine zH ?_ | refine zF rfl ?_ | refine zL ?_ | refine zB ?_ | refine zE ?_ | refine zA ?_ | refine zC ?_ | refine zT ?_ | refine zW ?_)
   rcases blt_tri p.1 q.1 with h | h | h
   ·have h1 : Op.bytesLess p.1.toList q.1.toList = true := h
    rw [diffS_lt h] at hd
    (repeat first | refine zE ?_ | refine zA ?_ | refine zC ?_ | refine zB ?_ | refine zD ?_); refine HW_drw2 20 mixed (by kernel_rfl) (fun K hK K1 hK1 => ?_); simp (maxSteps := 2000000) (disch := omega) only [push_cast, ↓Int.cast_ofNat_Int, Nat.reduceBEq, Nat.reduceAdd, Nat.reduceLT, Nat.reduceEqDiff, reduceIte, reduceCtorEq, Nat.reduceLeDiff, Nat.reduceSub, List.reduceReplicate, Nat.reduceMul, Int.reduceToNat, Int.toNat_natCast, Nat.reducePow, reduceIte, ents_lenc, yU, ents_get0, h1]
    refine hK1 _ ?_; clear hK1 K1; with_reducible refine hstop ?_; simp (maxSteps := 2000000) (disch := omega) only [push_cast, ↓Int.cast_ofNat_Int, Nat.reduceBEq, Nat.reduceAdd, Nat.reduceLT, Nat.reduceEqDiff, reduceIte, reduceCtorEq, Nat.reduceLeDiff, Nat.reduceSub, List.reduceReplicate, Nat.reduceMul, Int.reduceToNat, Int.toNat_natCast, Nat.reducePow, reduceIte, ents_lenc, yU, ents_get0, h1]
    refine hK _ ?_; clear hK K
    refine yD rfl ?_
    (repeat first | refine zE ?_ | refine zA ?_ | refine zC ?_ | refine zB ?_ | refine zD ?_); refine zJ (fun K hK => ?_); simp (maxSteps := 2000000) (disch := omega) only [push_cast, ↓Int.cast_ofNat_Int, Nat.reduceBEq, Nat.reduceAdd, Nat.reduceLT, Nat.reduceEqDiff, reduceIte, reduceCtorEq, Nat.reduceLeDiff, Nat.reduceSub, List.reduceReplicate, Nat.reduceMul, Int.reduceToNat, Int.toNat_natCast, Nat.reducePow, reduceIte, yU, ents_get0, ents_lenc, strs_snoc, strs_len]; (repeat refine ⟨by first | omega | decide | ((repeat' apply And.intro) <;> first | omega | decide), ?_⟩); refine hK _ ?_; clear hK K
    (repeat first | refine zE ?_ | refine zA ?_ | refine zC ?_ | refine zB ?_ | refine zD ?_); refine zJ (fun K hK => ?_); simp (maxSteps := 2000000) (disch := omega) only [push_cast, ↓Int.cast_ofNat_Int, Nat.reduceBEq, Nat.reduceAdd, Nat.reduceLT, Nat.reduceEqDiff, reduceIte, reduceCtorEq, Nat.reduceLeDiff, Nat.reduceSub, List.reduceReplicate, Nat.reduceMul, Int.reduceToNat, Int.toNat_natCast, Nat.reducePow, reduceIte, yU, ents_lenc, ents_tail]; (repeat refine ⟨by first | omega | decide | ((repeat' apply And.intro) <;> first | omega | decide), ?_⟩); refine hK _ ?_; clear hK K
    (repeat first | refine zK ?_ | refine zG ?_ | refine zH ?_ | refine zF rfl ?_ | refine zL ?_ | refine zB ?_ | refine zE ?_ | refine zA ?_ | refine zC ?_ | refine zT ?_ | refine zW ?_)
    exact ⟨(x, q :: y, out ++ [p.1]), by simp only [zZ, zR, zP, zQ, zN, zS, zM, zX, zU, Nat.reduceEqDiff, reduceIte]; try rfl, ⟨by dsimp only; rw [← hd]; simp, by dsimp only; simp; omega⟩, by dsimp only; simp⟩
   ·have h1 : Op.bytesLess p.1.toList q.1.toList = false := by rw [h]; exact blt_irr _
    have h2 : Op.bytesLess q.1.toList p.1.toList = false := by rw [h]; exact blt_irr _
    rw [diffS_eq h] at hd
    (repeat first | refine zE ?_ | refine zA ?_ | refine zC ?_ | refine zB ?_ | refine zD ?_); refine HW_drw2 20 mixed (by kernel_rfl) (fun K hK K1 hK1 => ?_); simp (maxSteps := 2000000) (disch := omega) only [push_cast, ↓Int.cast_ofNat_Int, Nat.reduceBEq, Nat.reduceAdd, Nat.reduceLT, Nat.reduceEqDiff, reduceIte, reduceCtorEq, Nat.reduceLeDiff, Nat.reduceSub, List.reduceReplicate, Nat.reduceMul, Int.reduceToNat, Int.toNat_natCast, Nat.reducePow, reduceIte, ents_lenc, yU, ents_get0, h1]
    refine hK1 _ ?_; clear hK1 K1; with_reducible refine hstop ?_; simp (maxSteps := 2000000) (disch := omega) only [push_cast, ↓Int.cast_ofNat_Int, Nat.reduceBEq, Nat.reduceAdd, Nat.reduceLT, Nat.reduceEqDiff, reduceIte, reduceCtorEq, Nat.reduceLeDiff, Nat.reduceSub, List.reduceReplicate, Nat.reduceMul, Int.reduceToNat, Int.toNat_natCast, Nat.reducePow, reduceIte, ents_lenc, yU, ents_get0, h1]
    refine hK _ ?_; clear hK K
    refine yC rfl ?_
    (repeat first | refine zE ?_ | refine zA ?_ | refine zC ?_ | refine zB ?_ | refine zD ?_); refine HW_drw2 15 mixed (by kernel_rfl) (fun K hK K1 hK1 => ?_); simp (maxSteps := 2000000) (disch := omega) only [push_cast, ↓Int.cast_ofNat_Int, Nat.reduceBEq, Nat.reduceAdd, Nat.reduceLT, Nat.reduceEqDiff, reduceIte, reduceCtorEq, Nat.reduceLeDiff, Nat.reduceSub, List.reduceReplicate, Nat.reduceMul, Int.reduceToNat, Int.toNat_natCast, Nat.reducePow, reduceIte, ents_lenc, yU, ents_get0, h2]
    refine hK1 _ ?_; clear hK1 K1; with_reducible refine hstop ?_; simp (maxSteps := 2000000) (disch := omega) only [push_cast, ↓Int.cast_ofNat_Int, Nat.reduceBEq, Nat.reduceAdd, Nat.reduceLT, Nat.reduceEqDiff, reduceIte, reduceCtorEq, Nat.reduceLeDiff, Nat.reduceSub, List.reduceReplicate, Nat.reduceMul, Int.reduceToNat, Int.toNat_natCast, Nat.reducePow, reduceIte, ents_lenc, yU, ents_get0, h2]
    refine hK _ ?_; clear hK K
    refine yC rfl ?_
    by_cases he : p.2 = q.2
    ·have he' : decide (p.2.1 = q.2.1 ∧ p.2.2 = q.2.2) = true := by rw [he]; simp
     rw [if_pos he] at hd
     (repeat first | refine zE ?_ | refine zA ?_ | refine zC ?_ | refine zB ?_ | refine zD ?_); refine HW_drw2 9 mixed (by kernel_rfl) (fun K hK K1 hK1 => ?_); simp (maxSteps := 2000000) (disch := omega) only [push_cast, ↓Int.cast_ofNat_Int, Nat.reduceBEq, Nat.reduceAdd, Nat.reduceLT, Nat.reduceEqDiff, reduceIte, reduceCtorEq, Nat.reduceLeDiff, Nat.reduceSub, List.reduceReplicate, Nat.reduceMul, Int.reduceToNat, Int.toNat_natCast, Nat.reducePow, reduceIte, ents_lenc, yU, ents_get0]
     refine ⟨_, eqN _ _ _ _, ?_⟩
     with_reducible refine hstop ?_; simp (maxSteps := 2000000) (disch := omega) only [push_cast, ↓Int.cast_ofNat_Int, Nat.reduceBEq, Nat.reduceAdd, Nat.reduceLT, Nat.reduceEqDiff, reduceIte, reduceCtorEq, Nat.reduceLeDiff, Nat.reduceSub, List.reduceReplicate, Nat.reduceMul, Int.reduceToNat, Int.toNat_natCast, Nat.reducePow, reduceIte, he']
     refine hK1 _ ?_; clear hK1 K1; with_reducible refine hstop ?_; simp (maxSteps := 2000000) (disch := omega) only [push_cast, ↓Int.cast_ofNat_Int, Nat.reduceBEq, Nat.reduceAdd, Nat.reduceLT, Nat.reduceEqDiff, reduceIte, reduceCtorEq, Nat.reduceLeDiff, Nat.reduceSub, List.reduceReplicate, Nat.reduceMul, Int.reduceToNat, Int.toNat_natCast, Nat.reducePow, reduceIte, he']
     refine hK _ ?_; clear hK K
     refine yC rfl ?_
     (repeat first | refine zK ?_ | refine zG ?_ | refine zH ?_ | refine zF rfl ?_ | refine zL ?_ | refine zB ?_ | refine zE ?_ | refine zA ?_ | refine zC ?_ | refine zT ?_ | refine zW ?_)
     (repeat first | refine zE ?_ | refine zA ?_ | refine zC ?_ | refine zB ?_ | refine zD ?_); refine HW_drwC 6 [] [[(48, .sl true 9 1 (strs out))]] [(0, 0, 0), (1, 0, 0), (2, 0, 0), (3, 0, 0), (4, 0, 0), (5, 0, 0)] mixed (by kernel_rfl) (by kernel_rfl) rfl (fun K hK K1 hK1 => ?_); simp (maxSteps := 2000000) (disch := omega) only [push_cast, ↓Int.cast_ofNat_Int, Nat.reduceBEq, Nat.reduceAdd, Nat.reduceLT, Nat.reduceEqDiff, reduceIte, reduceCtorEq, Nat.reduceLeDiff, Nat.reduceSub, List.reduceReplicate, Nat.reduceMul, Int.reduceToNat, Int.toNat_natCast, Nat.reducePow, reduceIte, nextW_nil, nextW_cons, rgOf_nil, rgOf_cons, kf_some, kf_no, stays_nil, stays_cons, strongK_store, strongK_copy, strongK_app, strongK_build, hwr2_go, hall_zero, hall_one, hall_two, hall_three, slotsW_store, slotsW_call, hvca_eq, hvcb_eq, hvce_eq, hvcw_some, hvcw_none, hvc1_none, hvc1_some, hvc_nil, hvcS_some, hvcS_none, hvc_cons, List.tail_cons, List.take_nil, List.drop_nil, implies_true, Nat.sub_self, Nat.le_refl, yU, ents_lenc, ents_tail]
     refine hK1 _ ?_; clear hK1 K1; with_reducible refine hstop ?_; simp (maxSteps := 2000000) (disch := omega) only [push_cast, ↓Int.cast_ofNat_Int, Nat.reduceBEq, Nat.reduceAdd, Nat.reduceLT, Nat.reduceEqDiff, reduceIte, reduceCtorEq, Nat.reduceLeDiff, Nat.reduceSub, List.reduceReplicate, Nat.reduceMul, Int.reduceToNat, Int.toNat_natCast, Nat.reducePow, reduceIte]
     refine hK _ ?_; clear hK K
     (repeat first | refine zK ?_ | refine zG ?_ | refine zH ?_ | refine zF rfl ?_ | refine zL ?_ | refine zB ?_ | refine zE ?_ | refine zA ?_ | refine zC ?_ | refine zT ?_ | refine zW ?_)
     exact ⟨(x, y, out), by simp only [zZ, zR, zP, zQ, zN, zS, zM, zX, zU, Nat.reduceEqDiff, reduceIte]; try rfl, ⟨hd, by dsimp only; omega⟩, by dsimp only; simp; omega⟩
    ·have he' : decide (p.2.1 = q.2.1 ∧ p.2.2 = q.2.2) = false := decide_eq_false fun e => he (Prod.ext e.1 e.2)
     rw [if_neg he] at hd
     (repeat first | refine zE ?_ | refine zA ?_ | refine zC ?_ | refine zB ?_ | refine zD ?_); refine HW_drw2 9 mixed (by kernel_rfl) (fun K hK K1 hK1 => ?_); simp (maxSteps := 2000000) (disch := omega) only [push_cast, ↓Int.cast_ofNat_Int, Nat.reduceBEq, Nat.reduceAdd, Nat.reduceLT, Nat.reduceEqDiff, reduceIte, reduceCtorEq, Nat.reduceLeDiff, Nat.reduceSub, List.reduceReplicate, Nat.reduceMul, Int.reduceToNat, Int.toNat_natCast, Nat.reducePow, reduceIte, ents_lenc, yU, ents_get0]
     refine ⟨_, eqN _ _ _ _, ?_⟩
     with_reducible refine hstop ?_; simp (maxSteps := 2000000) (disch := omega) only [push_cast, ↓Int.cast_ofNat_Int, Nat.reduceBEq, Nat.reduceAdd, Nat.reduceLT, Nat.reduceEqDiff, reduceIte, reduceCtorEq, Nat.reduceLeDiff, Nat.reduceSub, List.reduceReplicate, Nat.reduceMul, Int.reduceToNat, Int.toNat_natCast, Nat.reducePow, reduceIte, he']
     refine hK1 _ ?_; clear hK1 K1; with_reducible refine hstop ?_; simp (maxSteps := 2000000) (disch := omega) only [push_cast, ↓Int.cast_ofNat_Int, Nat.reduceBEq, Nat.reduceAdd, Nat.reduceLT, Nat.reduceEqDiff, reduceIte, reduceCtorEq, Nat.reduceLeDiff, Nat.reduceSub, List.reduceReplicate, Nat.reduceMul, Int.reduceToNat, Int.toNat_natCast, Nat.reducePow, reduceIte, he']
     refine hK _ ?_; clear hK K
     refine yD rfl ?_
     (repeat first | refine zE ?_ | refine zA ?_ | refine zC ?_ | refine zB ?_ | refine zD ?_); refine zJ (fun K hK => ?_); simp (maxSteps := 2000000) (disch := omega) only [push_cast, ↓Int.cast_ofNat_Int, Nat.reduceBEq, Nat.reduceAdd, Nat.reduceLT, Nat.reduceEqDiff, reduceIte, reduceCtorEq, Nat.reduceLeDiff, Nat.reduceSub, List.reduceReplicate, Nat.reduceMul, Int.reduceToNat, Int.toNat_natCast, Nat.reducePow, reduceIte, yU, ents_get0, ents_lenc, strs_snoc, strs_len]; (repeat refine ⟨by first | omega | decide | ((repeat' apply And.intro) <;> first | omega | decide), ?_⟩); refine hK _ ?_; clear hK K
     (repeat first | refine zK ?_ | refine zG ?_ | refine zH ?_ | refine zF rfl ?_ | refine zL ?_ | refine zB ?_ | refine zE ?_ | refine zA ?_ | refine zC ?_ | refine zT ?_ | refine zW ?_)
     refine yB [0, 1, 5] [48] (by simp only [zZ, zR, zP, zQ, zN, zS, zM, zX, zU, Nat.reduceEqDiff, reduceIte]; exact rfl) ?_
     (repeat first | refine zE ?_ | refine zA ?_ | refine zC ?_ | refine zB ?_ | refine zD ?_); refine HW_drwC 6 [] [[(48, .sl true 9 1 (strs (out ++ [p.1])))]] [(0, 0, 0), (1, 0, 0), (2, 0, 0), (3, 0, 0), (4, 0, 0), (5, 0, 0)] mixed (by kernel_rfl) (by kernel_rfl) rfl (fun K hK K1 hK1 => ?_); simp (maxSteps := 2000000) (disch := omega) only [push_cast, ↓Int.cast_ofNat_Int, Nat.reduceBEq, Nat.reduceAdd, Nat.reduceLT, Nat.reduceEqDiff, reduceIte, reduceCtorEq, Nat.reduceLeDiff, Nat.reduceSub, List.reduceReplicate, Nat.reduceMul, Int.reduceToNat, Int.toNat_natCast, Nat.reducePow, reduceIte, nextW_nil, nextW_cons, rgOf_nil, rgOf_cons, kf_some, kf_no, stays_nil, stays_cons, strongK_store, strongK_copy, strongK_app, strongK_build, hwr2_go, hall_zero, hall_one, hall_two, hall_three, slotsW_store, slotsW_call, hvca_eq, hvcb_eq, hvce_eq, hvcw_some, hvcw_none, hvc1_none, hvc1_some, hvc_nil, hvcS_some, hvcS_none, hvc_cons, List.tail_cons, List.take_nil, List.drop_nil, implies_true, Nat.sub_self, Nat.le_refl, yU, ents_lenc, ents_tail]
     refine hK1 _ ?_; clear hK1 K1; with_reducible refine hstop ?_; simp (maxSteps := 2000000) (disch := omega) only [push_cast, ↓Int.cast_ofNat_Int, Nat.reduceBEq, Nat.reduceAdd, Nat.reduceLT, Nat.reduceEqDiff, reduceIte, reduceCtorEq, Nat.reduceLeDiff, Nat.reduceSub, List.reduceReplicate, Nat.reduceMul, Int.reduceToNat, Int.toNat_natCast, Nat.reducePow, reduceIte]
     refine hK _ ?_; clear hK K
     (repeat first | refine zK ?_ | refine zG ?_ | refine zH ?_ | refine zF rfl ?_ | refine zL ?_ | refine zB ?_ | refine zE ?_ | refine zA ?_ | refine zC ?_ | refine zT ?_ | refine zW ?_)
     exact ⟨(x, y, out ++ [p.1]), by simp only [zZ, zR, zP, zQ, zN, zS, zM, zX, zU, Nat.reduceEqDiff, reduceIte]; try rfl, ⟨by dsimp only; rw [← hd]; simp, by dsimp only; simp; omega⟩, by dsimp only; simp; omega⟩
   ·have h1 : Op.bytesLess p.1.toList q.1.toList = false := blt_asymm h
    have h2 : Op.bytesLess q.1.toList p.1.toList = true := h
    rw [diffS_gt h] at hd
    (repeat first | refine zE ?_ | refine zA ?_ | refine zC ?_ | refine zB ?_ | refine zD ?_); refine HW_drw2 20 mixed (by kernel_rfl) (fun K hK K1 hK1 => ?_); simp (maxSteps := 2000000) (disch := omega) only [push_cast, ↓Int.cast_ofNat_Int, Nat.reduceBEq, Nat.reduceAdd, Nat.reduceLT, Nat.reduceEqDiff, reduceIte, reduceCtorEq, Nat.reduceLeDiff, Nat.reduceSub, List.reduceReplicate, Nat.reduceMul, Int.reduceToNat, Int.toNat_natCast, Nat.reducePow, reduceIte, ents_lenc, yU, ents_get0, h1]
    refine hK1 _ ?_; clear hK1 K1; with_reducible refine hstop ?_; simp (maxSteps := 2000000) (disch := omega) only [push_cast, ↓Int.cast_ofNat_Int, Nat.reduceBEq, Nat.reduceAdd, Nat.reduceLT, Nat.reduceEqDiff, reduceIte, reduceCtorEq, Nat.reduceLeDiff, Nat.reduceSub, List.reduceReplicate, Nat.reduceMul, Int.reduceToNat, Int.toNat_natCast, Nat.reducePow, reduceIte, ents_lenc, yU, ents_get0, h1]
    refine hK _ ?_; clear hK K
    refine yC rfl ?_
    (repeat first | refine zE ?_ | refine zA ?_ | refine zC ?_ | refine zB ?_ | refine zD ?_); refine HW_drw2 15 mixed (by kernel_rfl) (fun K hK K1 hK1 => ?_); simp (maxSteps := 2000000) (disch := omega) only [push_cast, ↓Int.cast_ofNat_Int, Nat.reduceBEq, Nat.reduceAdd, Nat.reduceLT, Nat.reduceEqDiff, reduceIte, reduceCtorEq, Nat.reduceLeDiff, Nat.reduceSub, List.reduceReplicate, Nat.reduceMul, Int.reduceToNat, Int.toNat_natCast, Nat.reducePow, reduceIte, ents_lenc, yU, ents_get0, h2]
    refine hK1 _ ?_; clear hK1 K1; with_reducible refine hstop ?_; simp (maxSteps := 2000000) (disch := omega) only [push_cast, ↓Int.cast_ofNat_Int, Nat.reduceBEq, Nat.reduceAdd, Nat.reduceLT, Nat.reduceEqDiff, reduceIte, reduceCtorEq, Nat.reduceLeDiff, Nat.reduceSub, List.reduceReplicate, Nat.reduceMul, Int.reduceToNat, Int.toNat_natCast, Nat.reducePow, reduceIte, ents_lenc, yU, ents_get0, h2]
    refine hK _ ?_; clear hK K
    refine yD rfl ?_
    (repeat first | refine zE ?_ | refine zA ?_ | refine zC ?_ | refine zB ?_ | refine zD ?_); refine zJ (fun K hK => ?_); simp (maxSteps := 2000000) (disch := omega) only [push_cast, ↓Int.cast_ofNat_Int, Nat.reduceBEq, Nat.reduceAdd, Nat.reduceLT, Nat.reduceEqDiff, reduceIte, reduceCtorEq, Nat.reduceLeDiff, Nat.reduceSub, List.reduceReplicate, Nat.reduceMul, Int.reduceToNat, Int.toNat_natCast, Nat.reducePow, reduceIte, yU, ents_get0, ents_lenc, strs_snoc, strs_len]; (repeat refine ⟨by first | omega | decide | ((repeat' apply And.intro) <;> first | omega | decide), ?_⟩); refine hK _ ?_; clear hK K
    (repeat first | refine zE ?_ | refine zA ?_ | refine zC ?_ | refine zB ?_ | refine zD ?_); refine zJ (fun K hK => ?_); simp (maxSteps := 2000000) (disch := omega) only [push_cast, ↓Int.cast_ofNat_Int, Nat.reduceBEq, Nat.reduceAdd, Nat.reduceLT, Nat.reduceEqDiff, reduceIte, reduceCtorEq, Nat.reduceLeDiff, Nat.reduceSub, List.reduceReplicate, Nat.reduceMul, Int.reduceToNat, Int.toNat_natCast, Nat.reducePow, reduceIte, yU, ents_lenc, ents_tail]; (repeat refine ⟨by first | omega | decide | ((repeat' apply And.intro) <;> first | omega | decide), ?_⟩); refine hK _ ?_; clear hK K
    (repeat first | refine zK ?_ | refine zG ?_ | refine zH ?_ | refine zF rfl ?_ | refine zL ?_ | refine zB ?_ | refine zE ?_ | refine zA ?_ | refine zC ?_ | refine zT ?_ | refine zW ?_)
    exact ⟨(p :: x, y, out ++ [q.1]), by simp only [zZ, zR, zP, zQ, zN, zS, zM, zX, zU, Nat.reduceEqDiff, reduceIte]; try rfl, ⟨by dsimp only; rw [← hd]; simp, by dsimp only; simp; omega⟩, by dsimp only; simp⟩
set_option maxHeartbeats 4000000 in
theorem equal_H (a b : List Ent) (ha : a.length ≤ 140737488355328) : HFun Tryd.prog 60 [.lst false (ents a), .lst false (ents b)] (fun h st => h = .v (.bool (decide (a = b)))) := by
 refine hfun (N := 26) Tryd.func60 rfl Tryd.ntmps60 Tryd.results60 (by simp) ?_
 (repeat first | refine zE ?_ | refine zA ?_ | refine zC ?_ | refine zB ?_ | refine zD ?_); refine zJ (fun K hK => ?_); simp (maxSteps := 2000000) (disch := omega) only [push_cast, ↓Int.cast_ofNat_Int, Nat.reduceBEq, Nat.reduceAdd, Nat.reduceLT, Nat.reduceEqDiff, reduceIte, reduceCtorEq, Nat.reduceLeDiff, Nat.reduceSub, List.reduceReplicate, Nat.reduceMul, Int.reduceToNat, Int.toNat_natCast, Nat.reducePow, reduceIte]; refine hK _ ?_; clear hK K
 by_cases hl : a.length = b.length
 ·(repeat first | refine zE ?_ | refine zA ?_ | refine zC ?_ | refine zB ?_ | refine zD ?_); refine zJ (fun K hK => ?_); simp (maxSteps := 2000000) (disch := omega) only [push_cast, ↓Int.cast_ofNat_Int, Nat.reduceBEq, Nat.reduceAdd, Nat.reduceLT, Nat.reduceEqDiff, reduceIte, reduceCtorEq, Nat.reduceLeDiff, Nat.reduceSub, List.reduceReplicate, Nat.reduceMul, Int.reduceToNat, Int.toNat_natCast, Nat.reducePow, reduceIte, yV]; refine hK _ ?_; clear hK K
  (repeat first | refine zE ?_ | refine zA ?_ | refine zC ?_ | refine zB ?_ | refine zD ?_)
  refine yC rfl ?_
  (repeat first | refine zE ?_ | refine zA ?_ | refine zC ?_ | refine zB ?_ | refine zD ?_)
  (repeat first | refine zE ?_ | refine zA ?_ | refine zC ?_ | refine zB ?_ | refine zD ?_); refine zJ (fun K hK => ?_); simp (maxSteps := 2000000) (disch := omega) only [push_cast, ↓Int.cast_ofNat_Int, Nat.reduceBEq, Nat.reduceAdd, Nat.reduceLT, Nat.reduceEqDiff, reduceIte, reduceCtorEq, Nat.reduceLeDiff, Nat.reduceSub, List.reduceReplicate, Nat.reduceMul, Int.reduceToNat, Int.toNat_natCast, Nat.reducePow, reduceIte, yV]; refine hK _ ?_; clear hK K
  (repeat first | refine zE ?_ | refine zA ?_ | refine zC ?_ | refine zB ?_ | refine zD ?_)
  refine HW_loop (fun i : Nat => ⟨[(0, .lst false (ents a)), (1, .lst false (ents b)), (12, .v (.int .i64 a.length)), (13, .v (.int .i64 i))], []⟩) (fun i => i ≤ a.length ∧ a.take i = b.take i) (fun i => a.length - i) [0, 1, 12, 13] [] 0 rfl ⟨Nat.zero_le _, rfl⟩ ?_
  rintro i ⟨hi, hp⟩
  by_cases hia : i < a.length
  ·have hib : i < b.length := by omega
   (repeat first | refine zE ?_ | refine zA ?_ | refine zC ?_ | refine zB ?_ | refine zD ?_); refine zJ (fun K hK => ?_); simp (maxSteps := 2000000) (disch := omega) only [push_cast, ↓Int.cast_ofNat_Int, Nat.reduceBEq, Nat.reduceAdd, Nat.reduceLT, Nat.reduceEqDiff, reduceIte, reduceCtorEq, Nat.reduceLeDiff, Nat.reduceSub, List.reduceReplicate, Nat.reduceMul, Int.reduceToNat, Int.toNat_natCast, Nat.reducePow, reduceIte]; refine hK _ ?_; clear hK K
   (repeat first | refine zE ?_ | refine zA ?_ | refine zC ?_ | refine zB ?_ | refine zD ?_)
   refine yD rfl ?_
   (repeat first | refine zK ?_ | refine zG ?_ | refine zH ?_ | refine zF rfl ?_ | refine zL ?_ | refine zB ?_ | refine zE ?_ | refine zA ?_ | refine zC ?_ | refine zT ?_ | refine zW ?_)
   (repeat first | refine zE ?_ | refine zA ?_ | refine zC ?_ | refine zB ?_ | refine zD ?_); refine zJ (fun K hK => ?_); simp (maxSteps := 2000000) (disch := omega) only [push_cast, ↓Int.cast_ofNat_Int, Nat.reduceBEq, Nat.reduceAdd, Nat.reduceLT, Nat.reduceEqDiff, reduceIte, reduceCtorEq, Nat.reduceLeDiff, Nat.reduceSub, List.reduceReplicate, Nat.reduceMul, Int.reduceToNat, Int.toNat_natCast, Nat.reducePow, reduceIte]; refine hK _ ?_; clear hK K
   by_cases he : a[i] = b[i]
   ·have he' : decide ((a[i].1, a[i].2.1, a[i].2.2) = (b[i].1, b[i].2.1, b[i].2.2)) = true := by rw [he]; simp
    (repeat first | refine zE ?_ | refine zA ?_ | refine zC ?_ | refine zB ?_ | refine zD ?_); refine HW_drw2 9 mixed (by kernel_rfl) (fun K hK K1 hK1 => ?_); simp (maxSteps := 2000000) (disch := omega) only [push_cast, ↓Int.cast_ofNat_Int, Nat.reduceBEq, Nat.reduceAdd, Nat.reduceLT, Nat.reduceEqDiff, reduceIte, reduceCtorEq, Nat.reduceLeDiff, Nat.reduceSub, List.reduceReplicate, Nat.reduceMul, Int.reduceToNat, Int.toNat_natCast, Nat.reducePow, reduceIte, yV, yU, yW hia, yW hib, he']
    refine ⟨_, eqE _ _ _ _ _ _, ?_⟩
    with_reducible refine hstop ?_; simp (maxSteps := 2000000) (disch := omega) only [push_cast, ↓Int.cast_ofNat_Int, Nat.reduceBEq, Nat.reduceAdd, Nat.reduceLT, Nat.reduceEqDiff, reduceIte, reduceCtorEq, Nat.reduceLeDiff, Nat.reduceSub, List.reduceReplicate, Nat.reduceMul, Int.reduceToNat, Int.toNat_natCast, Nat.reducePow, reduceIte, he']
    refine hK1 _ ?_; clear hK1 K1; with_reducible refine hstop ?_; simp (maxSteps := 2000000) (disch := omega) only [push_cast, ↓Int.cast_ofNat_Int, Nat.reduceBEq, Nat.reduceAdd, Nat.reduceLT, Nat.reduceEqDiff, reduceIte, reduceCtorEq, Nat.reduceLeDiff, Nat.reduceSub, List.reduceReplicate, Nat.reduceMul, Int.reduceToNat, Int.toNat_natCast, Nat.reducePow, reduceIte, he']
    refine hK _ ?_; clear hK K
    refine yC rfl ?_
    (repeat first | refine zK ?_ | refine zG ?_ | refine zH ?_ | refine zF rfl ?_ | refine zL ?_ | refine zB ?_ | refine zE ?_ | refine zA ?_ | refine zC ?_ | refine zT ?_ | refine zW ?_)
    (repeat first | refine zE ?_ | refine zA ?_ | refine zC ?_ | refine zB ?_ | refine zD ?_); refine zJ (fun K hK => ?_); simp (maxSteps := 2000000) (disch := omega) only [push_cast, ↓Int.cast_ofNat_Int, Nat.reduceBEq, Nat.reduceAdd, Nat.reduceLT, Nat.reduceEqDiff, reduceIte, reduceCtorEq, Nat.reduceLeDiff, Nat.reduceSub, List.reduceReplicate, Nat.reduceMul, Int.reduceToNat, Int.toNat_natCast, Nat.reducePow, reduceIte]; refine hK _ ?_; clear hK K
    (repeat first | refine zK ?_ | refine zG ?_ | refine zH ?_ | refine zF rfl ?_ | refine zL ?_ | refine zB ?_ | refine zE ?_ | refine zA ?_ | refine zC ?_ | refine zT ?_ | refine zW ?_)
    exact ⟨i + 1, rfl, ⟨hia, take_next hp hia hib he⟩, by omega⟩
   ·have he' : decide ((a[i].1, a[i].2.1, a[i].2.2) = (b[i].1, b[i].2.1, b[i].2.2)) = false := decide_eq_false he
    (repeat first | refine zE ?_ | refine zA ?_ | refine zC ?_ | refine zB ?_ | refine zD ?_); refine HW_drw2 9 mixed (by kernel_rfl) (fun K hK K1 hK1 => ?_); simp (maxSteps := 2000000) (disch := omega) only [push_cast, ↓Int.cast_ofNat_Int, Nat.reduceBEq, Nat.reduceAdd, Nat.reduceLT, Nat.reduceEqDiff, reduceIte, reduceCtorEq, Nat.reduceLeDiff, Nat.reduceSub, List.reduceReplicate, Nat.reduceMul, Int.reduceToNat, Int.toNat_natCast, Nat.reducePow, reduceIte, yV, yU, yW hia, yW hib, he']
    refine ⟨_, eqE _ _ _ _ _ _, ?_⟩
    with_reducible refine hstop ?_; simp (maxSteps := 2000000) (disch := omega) only [push_cast, ↓Int.cast_ofNat_Int, Nat.reduceBEq, Nat.reduceAdd, Nat.reduceLT, Nat.reduceEqDiff, reduceIte, reduceCtorEq, Nat.reduceLeDiff, Nat.reduceSub, List.reduceReplicate, Nat.reduceMul, Int.reduceToNat, Int.toNat_natCast, Nat.reducePow, reduceIte, he']
    refine hK1 _ ?_; clear hK1 K1; with_reducible refine hstop ?_; simp (maxSteps := 2000000) (disch := omega) only [push_cast, ↓Int.cast_ofNat_Int, Nat.reduceBEq, Nat.reduceAdd, Nat.reduceLT, Nat.reduceEqDiff, reduceIte, reduceCtorEq, Nat.reduceLeDiff, Nat.reduceSub, List.reduceReplicate, Nat.reduceMul, Int.reduceToNat, Int.toNat_natCast, Nat.reducePow, reduceIte, he']
    refine hK _ ?_; clear hK K
    refine yD rfl ?_
    (repeat first | refine zE ?_ | refine zA ?_ | refine zC ?_ | refine zB ?_ | refine zD ?_); refine zJ (fun K hK => ?_); simp (maxSteps := 2000000) (disch := omega) only [push_cast, ↓Int.cast_ofNat_Int, Nat.reduceBEq, Nat.reduceAdd, Nat.reduceLT, Nat.reduceEqDiff, reduceIte, reduceCtorEq, Nat.reduceLeDiff, Nat.reduceSub, List.reduceReplicate, Nat.reduceMul, Int.reduceToNat, Int.toNat_natCast, Nat.reducePow, reduceIte]; refine hK _ ?_; clear hK K
    (repeat first | refine zK ?_ | refine zG ?_ | refine zH ?_ | refine zF rfl ?_ | refine zL ?_ | refine zB ?_ | refine zE ?_ | refine zA ?_ | refine zC ?_ | refine zT ?_ | refine zW ?_)
    simp only [yA, yM, yH, yE, resH_cell, resC_go, yK, yJ, zS, zM, Nat.reduceEqDiff, reduceIte, reduceCtorEq]
    refine hres_v ?_
    rw [decide_eq_false (fun e => he (by subst e; rfl))]
  ·(repeat first | refine zE ?_ | refine zA ?_ | refine zC ?_ | refine zB ?_ | refine zD ?_); refine zJ (fun K hK => ?_); simp (maxSteps := 2000000) (disch := omega) only [push_cast, ↓Int.cast_ofNat_Int, Nat.reduceBEq, Nat.reduceAdd, Nat.reduceLT, Nat.reduceEqDiff, reduceIte, reduceCtorEq, Nat.reduceLeDiff, Nat.reduceSub, List.reduceReplicate, Nat.reduceMul, Int.reduceToNat, Int.toNat_natCast, Nat.reducePow, reduceIte]; refine hK _ ?_; clear hK K
   (repeat first | refine zE ?_ | refine zA ?_ | refine zC ?_ | refine zB ?_ | refine zD ?_)
   refine yC rfl ?_
   (repeat first | refine zK ?_ | refine zG ?_ | refine zH ?_ | refine zF rfl ?_ | refine zL ?_ | refine zB ?_ | refine zE ?_ | refine zA ?_ | refine zC ?_ | refine zT ?_ | refine zW ?_)
   (repeat first | refine zE ?_ | refine zA ?_ | refine zC ?_ | refine zB ?_ | refine zD ?_); refine zJ (fun K hK => ?_); simp (maxSteps := 2000000) (disch := omega) only [push_cast, ↓Int.cast_ofNat_Int, Nat.reduceBEq, Nat.reduceAdd, Nat.reduceLT, Nat.reduceEqDiff, reduceIte, reduceCtorEq, Nat.reduceLeDiff, Nat.reduceSub, List.reduceReplicate, Nat.reduceMul, Int.reduceToNat, Int.toNat_natCast, Nat.reducePow, reduceIte]; refine hK _ ?_; clear hK K
   (repeat first | refine zK ?_ | refine zG ?_ | refine zH ?_ | refine zF rfl ?_ | refine zL ?_ | refine zB ?_ | refine zE ?_ | refine zA ?_ | refine zC ?_ | refine zT ?_ | refine zW ?_)
   simp only [yA, yM, yH, yE, resH_cell, resC_go, yK, yJ, zS, zM, Nat.reduceEqDiff, reduceIte, reduceCtorEq]
   refine hres_v ?_
   rw [List.take_of_length_le (by omega), List.take_of_length_le (by omega)] at hp
   rw [decide_eq_true hp]
 ·(repeat first | refine zE ?_ | refine zA ?_ | refine zC ?_ | refine zB ?_ | refine zD ?_); refine zJ (fun K hK => ?_); simp (maxSteps := 2000000) (disch := omega) only [push_cast, ↓Int.cast_ofNat_Int, Nat.reduceBEq, Nat.reduceAdd, Nat.reduceLT, Nat.reduceEqDiff, reduceIte, reduceCtorEq, Nat.reduceLeDiff, Nat.reduceSub, List.reduceReplicate, Nat.reduceMul, Int.reduceToNat, Int.toNat_natCast, Nat.reducePow, reduceIte, yV]; refine hK _ ?_; clear hK K
  (repeat first | refine zE ?_ | refine zA ?_ | refine zC ?_ | refine zB ?_ | refine zD ?_)
  refine yD rfl ?_
  (repeat first | refine zE ?_ | refine zA ?_ | refine zC ?_ | refine zB ?_ | refine zD ?_); refine zJ (fun K hK => ?_); simp (maxSteps := 2000000) (disch := omega) only [push_cast, ↓Int.cast_ofNat_Int, Nat.reduceBEq, Nat.reduceAdd, Nat.reduceLT, Nat.reduceEqDiff, reduceIte, reduceCtorEq, Nat.reduceLeDiff, Nat.reduceSub, List.reduceReplicate, Nat.reduceMul, Int.reduceToNat, Int.toNat_natCast, Nat.reducePow, reduceIte]; refine hK _ ?_; clear hK K
  (repeat first | refine zK ?_ | refine zG ?_ | refine zH ?_ | refine zF rfl ?_ | refine zL ?_ | refine zB ?_ | refine zE ?_ | refine zA ?_ | refine zC ?_ | refine zT ?_ | refine zW ?_)
  simp only [yA, yM, yH, yE, resH_cell, resC_go, yK, yJ, zS, zM, Nat.reduceEqDiff, reduceIte, reduceCtorEq]
  refine hres_v ?_
  rw [decide_eq_false (fun e => hl (by rw [e]))]
set_option maxHeartbeats 1000000 in
theorem tsame_H (a b : List Ent) (ha : a.length ≤ 140737488355328) : HFun Tryd.prog 30 [.lst false (ents a), .lst false (ents b)] (fun h st => h = .v (.bool (decide (a = b)))) := by
 refine hfun (N := 8) Tryd.func30 rfl Tryd.ntmps30 Tryd.results30 (by simp) ?_
 (repeat first | refine zE ?_ | refine zA ?_ | refine zC ?_ | refine zB ?_ | refine zD ?_); refine zJ (fun K hK => ?_); simp (maxSteps := 2000000) (disch := omega) only [push_cast, ↓Int.cast_ofNat_Int, Nat.reduceBEq, Nat.reduceAdd, Nat.reduceLT, Nat.reduceEqDiff, reduceIte, reduceCtorEq, Nat.reduceLeDiff, Nat.reduceSub, List.reduceReplicate, Nat.reduceMul, Int.reduceToNat, Int.toNat_natCast, Nat.reducePow, reduceIte]; refine hK _ ?_; clear hK K
 (repeat first | refine zE ?_ | refine zA ?_ | refine zC ?_ | refine zB ?_ | refine zD ?_); refine zJ (fun K hK => ?_); simp (maxSteps := 2000000) (disch := omega) only [push_cast, ↓Int.cast_ofNat_Int, Nat.reduceBEq, Nat.reduceAdd, Nat.reduceLT, Nat.reduceEqDiff, reduceIte, reduceCtorEq, Nat.reduceLeDiff, Nat.reduceSub, List.reduceReplicate, Nat.reduceMul, Int.reduceToNat, Int.toNat_natCast, Nat.reducePow, reduceIte]
 refine hatv cl60 (equal_H a b ha) (.cons (lendL (yT _)) (.cons (lendL (yT _)) .nil)) ?_
 with_reducible refine hstop ?_; simp (maxSteps := 2000000) (disch := omega) only [push_cast, ↓Int.cast_ofNat_Int, Nat.reduceBEq, Nat.reduceAdd, Nat.reduceLT, Nat.reduceEqDiff, reduceIte, reduceCtorEq, Nat.reduceLeDiff, Nat.reduceSub, List.reduceReplicate, Nat.reduceMul, Int.reduceToNat, Int.toNat_natCast, Nat.reducePow, reduceIte]
 refine hK _ ?_; clear hK K
 (repeat first | refine zK ?_ | refine zG ?_ | refine zH ?_ | refine zF rfl ?_ | refine zL ?_ | refine zB ?_ | refine zE ?_ | refine zA ?_ | refine zC ?_ | refine zT ?_ | refine zW ?_)
 simp only [yA, yM, yH, yE, resH_cell, resC_go, yK, yJ, zS, zM, Nat.reduceEqDiff, reduceIte, reduceCtorEq]
 exact hres_v rfl
end Go.Proofs.YtkonlklieacjoaaDoor
