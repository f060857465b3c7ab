/-
  ReconQuiet: of three trees that are alike nothing is said; where two of them are alike one thing alone is said.
-/
import Derived.Test.YtdfjeokjmigkaaaGreatRcH
import Derived.Test.YtdfjeokjmigkaaaGreatApd
set_option linter.unusedSimpArgs false
set_option linter.unusedVariables false
set_option maxRecDepth 20000
namespace Go.Proofs.YtdfjeokjmigkaaaGreat
open Go Go.Eng Go.RowKit Go.Tr Go.Dk Go.Rc
set_option maxHeartbeats 4000000 in
theorem reconQuiet_H (a b : List Ent) (ha : a.length ≤ 1048576) (hb : b.length ≤ 1048576) (sa : ∀ e ∈ a, e.1.size ≤ 1048576) (sb : ∀ e ∈ b, e.1.size ≤ 1048576) :
  HFun Tryz.prog 5 [.lst false (ents a), .lst false (ents b)] (fun h st => h = .v (.bool true)) := by
 refine hfun (N := 39) Tryz.func5 rfl Tryz.ntmps5 Tryz.results5 (by simp) ?_
 have ct := trees_H a b [] ha hb (by simp) sa sb (fun e he => by cases he)
 (repeat first | refine zE ?_ | refine zA ?_ | refine zC ?_ | refine zB ?_ | refine zD ?_); refine zJ (fun K hK => ?_); simp (maxSteps := 2000000) (disch := omega) only [push_cast, ↓Int.cast_ofNat_Int, Nat.reduceBEq, Nat.reduceAdd, Nat.reduceLT, Nat.reduceEqDiff, reduceIte, reduceCtorEq, Nat.reduceLeDiff, Nat.reduceSub, List.reduceReplicate, Nat.reduceMul, Int.reduceToNat, Int.toNat_natCast, Nat.reducePow, reduceIte]; refine hK _ ?_; clear hK K
 cases d : (decide (checkS a = 0) && (decide (checkS b = 0) && decide (checkS ([] : List Ent) = 0))) with
 | false =>
  rw [d] at ct
  (repeat first | refine zE ?_ | refine zA ?_ | refine zC ?_ | refine zB ?_ | refine zD ?_); refine zJ (fun K hK => ?_); simp (maxSteps := 2000000) (disch := omega) only [push_cast, ↓Int.cast_ofNat_Int, Nat.reduceBEq, Nat.reduceAdd, Nat.reduceLT, Nat.reduceEqDiff, reduceIte, reduceCtorEq, Nat.reduceLeDiff, Nat.reduceSub, List.reduceReplicate, Nat.reduceMul, Int.reduceToNat, Int.toNat_natCast, Nat.reducePow, reduceIte]
  refine hatv cl9 rawake_H .nil ?_
  with_reducible refine hstop ?_; simp (maxSteps := 2000000) (disch := omega) only [push_cast, ↓Int.cast_ofNat_Int, Nat.reduceBEq, Nat.reduceAdd, Nat.reduceLT, Nat.reduceEqDiff, reduceIte, reduceCtorEq, Nat.reduceLeDiff, Nat.reduceSub, List.reduceReplicate, Nat.reduceMul, Int.reduceToNat, Int.toNat_natCast, Nat.reducePow, reduceIte]
  refine hatv cl10 ct (.cons (lendL (yT _)) (.cons (lendL (yT _)) (.cons .nil .nil))) ?_
  with_reducible refine hstop ?_; simp (maxSteps := 2000000) (disch := omega) only [push_cast, ↓Int.cast_ofNat_Int, Nat.reduceBEq, Nat.reduceAdd, Nat.reduceLT, Nat.reduceEqDiff, reduceIte, reduceCtorEq, Nat.reduceLeDiff, Nat.reduceSub, List.reduceReplicate, Nat.reduceMul, Int.reduceToNat, Int.toNat_natCast, Nat.reducePow, reduceIte]
  refine hK _ ?_; clear hK K
  (repeat first | refine zE ?_ | refine zA ?_ | refine zC ?_ | refine zB ?_ | refine zD ?_)
  refine yD rfl ?_
  (repeat first | refine zE ?_ | refine zA ?_ | refine zC ?_ | refine zB ?_ | refine zD ?_); refine zJ (fun K hK => ?_); simp (maxSteps := 2000000) (disch := omega) only [push_cast, ↓Int.cast_ofNat_Int, Nat.reduceBEq, Nat.reduceAdd, Nat.reduceLT, Nat.reduceEqDiff, reduceIte, reduceCtorEq, Nat.reduceLeDiff, Nat.reduceSub, List.reduceReplicate, Nat.reduceMul, Int.reduceToNat, Int.toNat_natCast, Nat.reducePow, reduceIte]
  refine hatv cl9 rawake_H .nil ?_
  with_reducible refine hstop ?_; simp (maxSteps := 2000000) (disch := omega) only [push_cast, ↓Int.cast_ofNat_Int, Nat.reduceBEq, Nat.reduceAdd, Nat.reduceLT, Nat.reduceEqDiff, reduceIte, reduceCtorEq, Nat.reduceLeDiff, Nat.reduceSub, List.reduceReplicate, Nat.reduceMul, Int.reduceToNat, Int.toNat_natCast, Nat.reducePow, reduceIte]
  refine hK _ ?_; clear hK K
  (repeat first | refine zK ?_ | refine zG ?_ | refine zH ?_ | refine zF rfl ?_ | refine zL ?_ | refine zB ?_ | refine zE ?_ | refine zA ?_ | refine zC ?_ | refine zT ?_ | refine zW ?_)
  simp only [yA, yM, yH, yE, resH_cell, resC_go, yK, yJ, zS, zM, Nat.reduceEqDiff, reduceIte, reduceCtorEq]
  exact hres_v rfl
 | true =>
  rw [d] at ct
  simp only [Bool.and_eq_true, decide_eq_true_eq] at d
  have tA := tb_check d.1 sa
  have tB := tb_check d.2.1 sb
  have i1 := items_H tA tA tA (.inl rfl)
  have i2 := items_H tA tB tB (.inl rfl)
  have i3 := items_H tA tA tB (.inr (.inl rfl))
  have i4 := items_H tA tB tA (.inr (.inr rfl))
  have e1 : itemsQ a a a = [] := quiet_all a _ _
  have e2 : ∀ x ∈ itemsQ a b b, x.2 = 1 := quiet_hs a b _ _
  have e3 : ∀ x ∈ itemsQ a a b, x.2 = 3 := quiet_ha a b _ _
  have e4 : ∀ x ∈ itemsQ a b a, x.2 = 2 := quiet_sa a b _ _
  have lA := tA.len
  have lB := tB.len
  have l2 : (itemsQ a b b).length ≤ 1000000 := Nat.le_trans (below_bound a b b _ _) (by omega)
  have l3 : (itemsQ a a b).length ≤ 1000000 := Nat.le_trans (below_bound a a b _ _) (by omega)
  have l4 : (itemsQ a b a).length ≤ 1000000 := Nat.le_trans (below_bound a b a _ _) (by omega)
  rw [e1] at i1
  generalize itemsQ a b b = L2 at *
  generalize itemsQ a a b = L3 at *
  generalize itemsQ a b a = L4 at *
  have o2 := only_H L2 1 1 l2 e2
  have o3 := only_H L3 3 1 l3 e3
  have o4 := only_H L4 2 1 l4 e4
  (repeat first | refine zE ?_ | refine zA ?_ | refine zC ?_ | refine zB ?_ | refine zD ?_); refine zJ (fun K hK => ?_); simp (maxSteps := 2000000) (disch := omega) only [push_cast, ↓Int.cast_ofNat_Int, Nat.reduceBEq, Nat.reduceAdd, Nat.reduceLT, Nat.reduceEqDiff, reduceIte, reduceCtorEq, Nat.reduceLeDiff, Nat.reduceSub, List.reduceReplicate, Nat.reduceMul, Int.reduceToNat, Int.toNat_natCast, Nat.reducePow, reduceIte]
  refine hatv cl9 rawake_H .nil ?_
  with_reducible refine hstop ?_; simp (maxSteps := 2000000) (disch := omega) only [push_cast, ↓Int.cast_ofNat_Int, Nat.reduceBEq, Nat.reduceAdd, Nat.reduceLT, Nat.reduceEqDiff, reduceIte, reduceCtorEq, Nat.reduceLeDiff, Nat.reduceSub, List.reduceReplicate, Nat.reduceMul, Int.reduceToNat, Int.toNat_natCast, Nat.reducePow, reduceIte]
  refine hatv cl10 ct (.cons (lendL (yT _)) (.cons (lendL (yT _)) (.cons .nil .nil))) ?_
  with_reducible refine hstop ?_; simp (maxSteps := 2000000) (disch := omega) only [push_cast, ↓Int.cast_ofNat_Int, Nat.reduceBEq, Nat.reduceAdd, Nat.reduceLT, Nat.reduceEqDiff, reduceIte, reduceCtorEq, Nat.reduceLeDiff, Nat.reduceSub, List.reduceReplicate, Nat.reduceMul, Int.reduceToNat, Int.toNat_natCast, Nat.reducePow, reduceIte]
  refine hK _ ?_; clear hK K
  (repeat first | refine zE ?_ | refine zA ?_ | refine zC ?_ | refine zB ?_ | refine zD ?_)
  refine yC rfl ?_
  (repeat first | refine zK ?_ | refine zG ?_ | refine zH ?_ | refine zF rfl ?_ | refine zL ?_ | refine zB ?_ | refine zE ?_ | refine zA ?_ | refine zC ?_ | refine zT ?_ | refine zW ?_)
  (repeat first | refine zE ?_ | refine zA ?_ | refine zC ?_ | refine zB ?_ | refine zD ?_); refine zJ (fun K hK => ?_); simp (maxSteps := 2000000) (disch := omega) only [push_cast, ↓Int.cast_ofNat_Int, Nat.reduceBEq, Nat.reduceAdd, Nat.reduceLT, Nat.reduceEqDiff, reduceIte, reduceCtorEq, Nat.reduceLeDiff, Nat.reduceSub, List.reduceReplicate, Nat.reduceMul, Int.reduceToNat, Int.toNat_natCast, Nat.reducePow, reduceIte]
  refine hat 136 cl12 i1 (.cons (lendL (yT _)) (.cons (lendL (yT _)) (.cons (lendL (yT _)) .nil))) ?_
  rintro _ _ ⟨rfl, rfl⟩
  with_reducible refine hstop ?_; simp (maxSteps := 2000000) (disch := omega) only [push_cast, ↓Int.cast_ofNat_Int, Nat.reduceBEq, Nat.reduceAdd, Nat.reduceLT, Nat.reduceEqDiff, reduceIte, reduceCtorEq, Nat.reduceLeDiff, Nat.reduceSub, List.reduceReplicate, Nat.reduceMul, Int.reduceToNat, Int.toNat_natCast, Nat.reducePow, reduceIte, itl_len, List.length_nil]
  refine hK _ ?_; clear hK K
  (repeat first | refine zE ?_ | refine zA ?_ | refine zC ?_ | refine zB ?_ | refine zD ?_)
  refine yC rfl ?_
  (repeat first | refine zK ?_ | refine zG ?_ | refine zH ?_ | refine zF rfl ?_ | refine zL ?_ | refine zB ?_ | refine zE ?_ | refine zA ?_ | refine zC ?_ | refine zT ?_ | refine zW ?_)
  refine yB [0, 1] [] (by simp only [zZ, zR, zP, zQ, zN, zS, zM, zX, zU, Nat.reduceEqDiff, reduceIte]; exact rfl) ?_
  (repeat first | refine zE ?_ | refine zA ?_ | refine zC ?_ | refine zB ?_ | refine zD ?_); refine zJ (fun K hK => ?_); simp (maxSteps := 2000000) (disch := omega) only [push_cast, ↓Int.cast_ofNat_Int, Nat.reduceBEq, Nat.reduceAdd, Nat.reduceLT, Nat.reduceEqDiff, reduceIte, reduceCtorEq, Nat.reduceLeDiff, Nat.reduceSub, List.reduceReplicate, Nat.reduceMul, Int.reduceToNat, Int.toNat_natCast, Nat.reducePow, reduceIte]
  refine hat 184 cl12 i2 (.cons (lendL (yT _)) (.cons (lendL (yT _)) (.cons (lendL (yT _)) .nil))) ?_
  rintro _ _ ⟨rfl, rfl⟩
  with_reducible refine hstop ?_; simp (maxSteps := 2000000) (disch := omega) only [push_cast, ↓Int.cast_ofNat_Int, Nat.reduceBEq, Nat.reduceAdd, Nat.reduceLT, Nat.reduceEqDiff, reduceIte, reduceCtorEq, Nat.reduceLeDiff, Nat.reduceSub, List.reduceReplicate, Nat.reduceMul, Int.reduceToNat, Int.toNat_natCast, Nat.reducePow, reduceIte]
  refine hatv cl21 o2 (.cons (lendO (itl_old _) rfl) (.cons (.v _) (.cons (.v _) .nil))) ?_
  with_reducible refine hstop ?_; simp (maxSteps := 2000000) (disch := omega) only [push_cast, ↓Int.cast_ofNat_Int, Nat.reduceBEq, Nat.reduceAdd, Nat.reduceLT, Nat.reduceEqDiff, reduceIte, reduceCtorEq, Nat.reduceLeDiff, Nat.reduceSub, List.reduceReplicate, Nat.reduceMul, Int.reduceToNat, Int.toNat_natCast, Nat.reducePow, reduceIte]
  refine hat 232 cl12 i3 (.cons (lendL (yT _)) (.cons (lendL (yT _)) (.cons (lendL (yT _)) .nil))) ?_
  rintro _ _ ⟨rfl, rfl⟩
  with_reducible refine hstop ?_; simp (maxSteps := 2000000) (disch := omega) only [push_cast, ↓Int.cast_ofNat_Int, Nat.reduceBEq, Nat.reduceAdd, Nat.reduceLT, Nat.reduceEqDiff, reduceIte, reduceCtorEq, Nat.reduceLeDiff, Nat.reduceSub, List.reduceReplicate, Nat.reduceMul, Int.reduceToNat, Int.toNat_natCast, Nat.reducePow, reduceIte]
  refine hatv cl21 o3 (.cons (lendO (itl_old _) rfl) (.cons (.v _) (.cons (.v _) .nil))) ?_
  with_reducible refine hstop ?_; simp (maxSteps := 2000000) (disch := omega) only [push_cast, ↓Int.cast_ofNat_Int, Nat.reduceBEq, Nat.reduceAdd, Nat.reduceLT, Nat.reduceEqDiff, reduceIte, reduceCtorEq, Nat.reduceLeDiff, Nat.reduceSub, List.reduceReplicate, Nat.reduceMul, Int.reduceToNat, Int.toNat_natCast, Nat.reducePow, reduceIte]
  refine hat 288 cl12 i4 (.cons (lendL (yT _)) (.cons (lendL (yT _)) (.cons (lendL (yT _)) .nil))) ?_
  rintro _ _ ⟨rfl, rfl⟩
  with_reducible refine hstop ?_; simp (maxSteps := 2000000) (disch := omega) only [push_cast, ↓Int.cast_ofNat_Int, Nat.reduceBEq, Nat.reduceAdd, Nat.reduceLT, Nat.reduceEqDiff, reduceIte, reduceCtorEq, Nat.reduceLeDiff, Nat.reduceSub, List.reduceReplicate, Nat.reduceMul, Int.reduceToNat, Int.toNat_natCast, Nat.reducePow, reduceIte]
  refine hatv cl21 o4 (.cons (lendO (itl_old _) rfl) (.cons (.v _) (.cons (.v _) .nil))) ?_
  with_reducible refine hstop ?_; simp (maxSteps := 2000000) (disch := omega) only [push_cast, ↓Int.cast_ofNat_Int, Nat.reduceBEq, Nat.reduceAdd, Nat.reduceLT, Nat.reduceEqDiff, reduceIte, reduceCtorEq, Nat.reduceLeDiff, Nat.reduceSub, List.reduceReplicate, Nat.reduceMul, Int.reduceToNat, Int.toNat_natCast, Nat.reducePow, reduceIte]
  refine hK _ ?_; clear hK K
  (repeat first | refine zK ?_ | refine zG ?_ | refine zH ?_ | refine zF rfl ?_ | refine zL ?_ | refine zB ?_ | refine zE ?_ | refine zA ?_ | refine zC ?_ | refine zT ?_ | refine zW ?_)
  simp only [yA, yM, yH, yE, resH_cell, resC_go, yK, yJ, zS, zM, Nat.reduceEqDiff, reduceIte, reduceCtorEq]
  exact hres_v rfl
theorem reconQuiet_U (a b : List Ent) (hu : fw (.lst false (ents a)) + (fw (.lst false (ents b)) + 0) ≤ 1048576) : HFun Tryz.prog 5 [.lst false (ents a), .lst false (ents b)] (fun h st => h = .v (.bool true)) := by
 obtain ⟨h1, h2⟩ := fw_ents a
 obtain ⟨h3, h4⟩ := fw_ents b
 exact reconQuiet_H a b (by omega) (by omega) (fun e he => by have := (h2 e he).1; omega) (fun e he => by have := (h4 e he).1; omega)
end Go.Proofs.YtdfjeokjmigkaaaGreat
