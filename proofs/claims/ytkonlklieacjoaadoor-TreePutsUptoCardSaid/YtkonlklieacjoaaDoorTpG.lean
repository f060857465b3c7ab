/-
  The law TreePuts.
-/
import Derived.Test.YtkonlklieacjoaaDoorTpF
import Derived.Test.YtkonlklieacjoaaDoorUpe
import Derived.Test.YtkonlklieacjoaaDoorTrR
import Derived.Test.YtkonlklieacjoaaDoorAeH
import Derived.Test.YtkonlklieacjoaaDoorHau
set_option linter.unusedSimpArgs false
set_option linter.unusedVariables false
set_option maxRecDepth 20000
namespace Go.Proofs.YtkonlklieacjoaaDoor
open Go Go.Eng Go.RowKit Go.Tr
theorem spare_takeP (a : List Ent) : (ents (a ++ [spare])).take a.length = ents a := by rw [ents_take, List.take_left' rfl]
set_option maxHeartbeats 8000000 in
theorem treePuts_H (a : List Ent) (p : ByteArray) (n : Int × ByteArray) (hla : a.length ≤ 1048576) (hsa : ∀ e ∈ a, e.1.size ≤ 1048576) (hp : p.size ≤ 1048576) :
  HFun Tryd.prog 4 [.lst false (ents a), .v (.string p), nodeH n] (fun h st => h = .v (.bool true)) := by
 refine hfun (N := 70) Tryd.func4 rfl Tryd.ntmps4 Tryd.results4 (by simp) ?_
 obtain ⟨k, d⟩ := n
 have ca := rcheck_H a (by omega) hsa
 (repeat first | refine zE ?_ | refine zA ?_ | refine zC ?_ | refine zB ?_ | refine zD ?_); refine zJ (fun K hK => ?_); simp (maxSteps := 2000000) (disch := omega) only [push_cast, ↓Int.cast_ofNat_Int, Nat.reduceBEq, Nat.reduceAdd, Nat.reduceLT, Nat.reduceEqDiff, reduceIte, reduceCtorEq, Nat.reduceLeDiff, Nat.reduceSub, List.reduceReplicate, Nat.reduceMul, Int.reduceToNat, Int.toNat_natCast, Nat.reducePow, reduceIte]; refine hK _ ?_; clear hK K
 by_cases ha : checkS a = 0
 ·rw [ha] at ca
  (repeat first | refine zE ?_ | refine zA ?_ | refine zC ?_ | refine zB ?_ | refine zD ?_); refine zJ (fun K hK => ?_); simp (maxSteps := 2000000) (disch := omega) only [push_cast, ↓Int.cast_ofNat_Int, Nat.reduceBEq, Nat.reduceAdd, Nat.reduceLT, Nat.reduceEqDiff, reduceIte, reduceCtorEq, Nat.reduceLeDiff, Nat.reduceSub, List.reduceReplicate, Nat.reduceMul, Int.reduceToNat, Int.toNat_natCast, Nat.reducePow, reduceIte]
  refine hatv cl14 tawake_H .nil ?_
  with_reducible refine hstop ?_; simp (maxSteps := 2000000) (disch := omega) only [push_cast, ↓Int.cast_ofNat_Int, Nat.reduceBEq, Nat.reduceAdd, Nat.reduceLT, Nat.reduceEqDiff, reduceIte, reduceCtorEq, Nat.reduceLeDiff, Nat.reduceSub, List.reduceReplicate, Nat.reduceMul, Int.reduceToNat, Int.toNat_natCast, Nat.reducePow, reduceIte]
  refine hatv cl16 ca (.cons (lendL (yT _)) .nil) ?_
  with_reducible refine hstop ?_; simp (maxSteps := 2000000) (disch := omega) only [push_cast, ↓Int.cast_ofNat_Int, Nat.reduceBEq, Nat.reduceAdd, Nat.reduceLT, Nat.reduceEqDiff, reduceIte, reduceCtorEq, Nat.reduceLeDiff, Nat.reduceSub, List.reduceReplicate, Nat.reduceMul, Int.reduceToNat, Int.toNat_natCast, Nat.reducePow, reduceIte]
  refine hK _ ?_; clear hK K
  refine yC rfl ?_
  (repeat first | refine zE ?_ | refine zA ?_ | refine zC ?_ | refine zB ?_ | refine zD ?_)
  obtain ⟨la, oka⟩ := checkS_ok ha
  have ra := okR_rise oka
  have ho : olds (((ents (a ++ [spare])).drop 0).take a.length) = ents a := by rw [List.drop_zero, spare_takeP, yT]
  have c20 := put_H a p (k, d) ra (by omega) hp hsa
  have c21 := rput_H a p (k, d) (there_kind oka p) (by omega) hp hsa
  rw [put_put ra] at c21
  have dl := putT_len a p (k, d)
  generalize putT a p (k, d) = D at *
  generalize putE a p (k, d) = e at *
  have c22 := rsame_H D D (by omega)
  rw [decide_eq_true rfl] at c22
  (repeat first | refine zE ?_ | refine zA ?_ | refine zC ?_ | refine zB ?_ | refine zD ?_); refine zJ (fun K hK => ?_); simp (maxSteps := 2000000) (disch := omega) only [push_cast, ↓Int.cast_ofNat_Int, Nat.reduceBEq, Nat.reduceAdd, Nat.reduceLT, Nat.reduceEqDiff, reduceIte, reduceCtorEq, Nat.reduceLeDiff, Nat.reduceSub, List.reduceReplicate, Nat.reduceMul, Int.reduceToNat, Int.toNat_natCast, Nat.reducePow, reduceIte]
  refine hat 184 cl13 (roomy_H a hla) (.cons (lendL (yT _)) .nil) ?_
  rintro _ _ ⟨rfl, rfl⟩
  with_reducible refine hstop ?_; simp (maxSteps := 2000000) (disch := omega) only [push_cast, ↓Int.cast_ofNat_Int, Nat.reduceBEq, Nat.reduceAdd, Nat.reduceLT, Nat.reduceEqDiff, reduceIte, reduceCtorEq, Nat.reduceLeDiff, Nat.reduceSub, List.reduceReplicate, Nat.reduceMul, Int.reduceToNat, Int.toNat_natCast, Nat.reducePow, reduceIte]
  refine hK _ ?_; clear hK K
  (repeat first | refine zE ?_ | refine zA ?_ | refine zC ?_ | refine zB ?_ | refine zD ?_); refine zJ (fun K hK => ?_); simp (maxSteps := 2000000) (disch := omega) only [push_cast, ↓Int.cast_ofNat_Int, Nat.reduceBEq, Nat.reduceAdd, Nat.reduceLT, Nat.reduceEqDiff, reduceIte, reduceCtorEq, Nat.reduceLeDiff, Nat.reduceSub, List.reduceReplicate, Nat.reduceMul, Int.reduceToNat, Int.toNat_natCast, Nat.reducePow, reduceIte]
  refine hat 224 cl20 c20 (.cons (lendV ho rfl) (.cons (.v _) (.cons (lend_node (n := (k, d))) .nil))) ?_
  rintro _ _ ⟨rfl, rfl⟩
  with_reducible refine hstop ?_; simp (maxSteps := 2000000) (disch := omega) only [push_cast, ↓Int.cast_ofNat_Int, Nat.reduceBEq, Nat.reduceAdd, Nat.reduceLT, Nat.reduceEqDiff, reduceIte, reduceCtorEq, Nat.reduceLeDiff, Nat.reduceSub, List.reduceReplicate, Nat.reduceMul, Int.reduceToNat, Int.toNat_natCast, Nat.reducePow, reduceIte]
  refine hK _ ?_; clear hK K
  refine yB [0, 1, 5, 7, 8, 9] [40, 184, 224] (by simp only [zZ, zR, zP, zQ, zN, zS, zM, zX, zU, Nat.reduceEqDiff, reduceIte]; exact rfl) ?_
  (repeat first | refine zE ?_ | refine zA ?_ | refine zC ?_ | refine zB ?_ | refine zD ?_); refine zJ (fun K hK => ?_); simp (maxSteps := 2000000) (disch := omega) only [push_cast, ↓Int.cast_ofNat_Int, Nat.reduceBEq, Nat.reduceAdd, Nat.reduceLT, Nat.reduceEqDiff, reduceIte, reduceCtorEq, Nat.reduceLeDiff, Nat.reduceSub, List.reduceReplicate, Nat.reduceMul, Int.reduceToNat, Int.toNat_natCast, Nat.reducePow, reduceIte]
  refine hat 280 cl21 c21 (.cons (lendL (yT _)) (.cons (.v _) (.cons (lend_node (n := (k, d))) .nil))) ?_
  rintro _ _ ⟨rfl, rfl⟩
  with_reducible refine hstop ?_; simp (maxSteps := 2000000) (disch := omega) only [push_cast, ↓Int.cast_ofNat_Int, Nat.reduceBEq, Nat.reduceAdd, Nat.reduceLT, Nat.reduceEqDiff, reduceIte, reduceCtorEq, Nat.reduceLeDiff, Nat.reduceSub, List.reduceReplicate, Nat.reduceMul, Int.reduceToNat, Int.toNat_natCast, Nat.reducePow, reduceIte]
  refine hK _ ?_; clear hK K
  refine yB [0, 1, 5, 7, 8, 9, 10, 11] [40, 184, 224, 280] (by simp only [zZ, zR, zP, zQ, zN, zS, zM, zX, zU, Nat.reduceEqDiff, reduceIte]; exact rfl) ?_
  (repeat first | refine zE ?_ | refine zA ?_ | refine zC ?_ | refine zB ?_ | refine zD ?_); refine zJ (fun K hK => ?_); simp (maxSteps := 2000000) (disch := omega) only [push_cast, ↓Int.cast_ofNat_Int, Nat.reduceBEq, Nat.reduceAdd, Nat.reduceLT, Nat.reduceEqDiff, reduceIte, reduceCtorEq, Nat.reduceLeDiff, Nat.reduceSub, List.reduceReplicate, Nat.reduceMul, Int.reduceToNat, Int.toNat_natCast, Nat.reducePow, reduceIte]
  refine hat 328 cl20 c20 (.cons (lendV ho rfl) (.cons (.v _) (.cons (lend_node (n := (k, d))) .nil))) ?_
  rintro _ _ ⟨rfl, rfl⟩
  with_reducible refine hstop ?_; simp (maxSteps := 2000000) (disch := omega) only [push_cast, ↓Int.cast_ofNat_Int, Nat.reduceBEq, Nat.reduceAdd, Nat.reduceLT, Nat.reduceEqDiff, reduceIte, reduceCtorEq, Nat.reduceLeDiff, Nat.reduceSub, List.reduceReplicate, Nat.reduceMul, Int.reduceToNat, Int.toNat_natCast, Nat.reducePow, reduceIte]
  refine hK _ ?_; clear hK K
  refine yB [0, 7, 8, 9, 10, 11, 12] [184, 224, 280, 328] (by simp only [zZ, zR, zP, zQ, zN, zS, zM, zX, zU, Nat.reduceEqDiff, reduceIte]; exact rfl) ?_
  refine HW_name 184 1000000 (by decide) rfl rfl (by simp only [name_eq, nm_eq, eren_nil, eren_cons, sren_nil, sren_cons, hren_v, hren_lst, hren_own, hren_ptr, hren_vw, hren_agg, hren_tup, hren_junk, rren_sl, rren_bx, rren_hl, Nat.reduceMul, Nat.reduceAdd, Nat.reduceEqDiff, reduceIte, List.map_cons, List.map_nil]; exact rfl) ?_
  refine HW_name 224 1000001 (by decide) rfl rfl (by simp only [name_eq, nm_eq, eren_nil, eren_cons, sren_nil, sren_cons, hren_v, hren_lst, hren_own, hren_ptr, hren_vw, hren_agg, hren_tup, hren_junk, rren_sl, rren_bx, rren_hl, Nat.reduceMul, Nat.reduceAdd, Nat.reduceEqDiff, reduceIte, List.map_cons, List.map_nil]; exact rfl) ?_
  refine HW_name 328 1000002 (by decide) rfl rfl (by simp only [name_eq, nm_eq, eren_nil, eren_cons, sren_nil, sren_cons, hren_v, hren_lst, hren_own, hren_ptr, hren_vw, hren_agg, hren_tup, hren_junk, rren_sl, rren_bx, rren_hl, Nat.reduceMul, Nat.reduceAdd, Nat.reduceEqDiff, reduceIte, List.map_cons, List.map_nil]; exact rfl) ?_
  have hlt : a.length < (ents (a ++ [spare])).length := by rw [yV, List.length_append]; simp
  (repeat first | refine zE ?_ | refine zA ?_ | refine zC ?_ | refine zB ?_ | refine zD ?_); refine HW_regS (fun K hK => ?_)
  refine HV2s_cut 18 [7, 8, 12, 62, 63, 64, 65, 66, 67, 68, 69] [1000000, 1000001, 1000002] ?_; simp (maxSteps := 2000000) (disch := omega) only [push_cast, ↓Int.cast_ofNat_Int, Nat.reduceBEq, Nat.reduceAdd, Nat.reduceLT, Nat.reduceEqDiff, reduceIte, reduceCtorEq, Nat.reduceLeDiff, Nat.reduceSub, List.reduceReplicate, Nat.reduceMul, Int.reduceToNat, Int.toNat_natCast, Nat.reducePow, reduceIte]
  refine hatv cl22 c22 (.cons (lendO (yT _) rfl) (.cons (lendO (yT _) rfl) .nil)) ?_
  with_reducible refine hstop ?_; simp (maxSteps := 2000000) (disch := omega) only [push_cast, ↓Int.cast_ofNat_Int, Nat.reduceBEq, Nat.reduceAdd, Nat.reduceLT, Nat.reduceEqDiff, reduceIte, reduceCtorEq, Nat.reduceLeDiff, Nat.reduceSub, List.reduceReplicate, Nat.reduceMul, Int.reduceToNat, Int.toNat_natCast, Nat.reducePow, reduceIte]
  refine hatv cl22 c22 (.cons (lendO (yT _) rfl) (.cons (lendO (yT _) rfl) .nil)) ?_
  with_reducible refine hstop ?_; simp (maxSteps := 2000000) (disch := omega) only [push_cast, ↓Int.cast_ofNat_Int, Nat.reduceBEq, Nat.reduceAdd, Nat.reduceLT, Nat.reduceEqDiff, reduceIte, reduceCtorEq, Nat.reduceLeDiff, Nat.reduceSub, List.reduceReplicate, Nat.reduceMul, Int.reduceToNat, Int.toNat_natCast, Nat.reducePow, reduceIte]
  refine held_at hla rfl (lendL (yT _)) ?_
  with_reducible refine hstop ?_; simp (maxSteps := 2000000) (disch := omega) only [push_cast, ↓Int.cast_ofNat_Int, Nat.reduceBEq, Nat.reduceAdd, Nat.reduceLT, Nat.reduceEqDiff, reduceIte, reduceCtorEq, Nat.reduceLeDiff, Nat.reduceSub, List.reduceReplicate, Nat.reduceMul, Int.reduceToNat, Int.toNat_natCast, Nat.reducePow, reduceIte]
  refine hstop ?_; simp only [zZ, zR, zP, zQ, zN, zS, zM, zX, zU, Nat.reduceEqDiff, reduceIte, List.drop_succ_cons, List.drop_zero]
  refine HV2s_trim 1000000 (a.length) rfl (by exact hlt) (by simp only [trim_eq, etrim_nil, etrim_cons, strim_nil, strim_cons, htrim_v, htrim_lst, htrim_own, htrim_ptr, htrim_vw, htrim_agg, htrim_tup, htrim_junk, rtrim_sl, rtrim_bx, rtrim_hl, Nat.sub_zero, true_and, eq_self, and_self, Nat.reduceMul, Nat.reduceAdd, Nat.reduceEqDiff, reduceIte, List.map_cons, List.map_nil, spare_takeP]; exact rfl) ?_
  refine HV2s_end ?_; simp (maxSteps := 2000000) (disch := omega) only [push_cast, ↓Int.cast_ofNat_Int, Nat.reduceBEq, Nat.reduceAdd, Nat.reduceLT, Nat.reduceEqDiff, reduceIte, reduceCtorEq, Nat.reduceLeDiff, Nat.reduceSub, List.reduceReplicate, Nat.reduceMul, Int.reduceToNat, Int.toNat_natCast, Nat.reducePow, reduceIte]
  refine hatS 544 [536, 1000001, 1000002, 1000000] cl23 (apart43_H D D a true true true true (by omega) (by omega) (by omega)) rfl (by decide) (by decide) (by simp only [push_cast, pos_nil, yF, Option.getD_some, Bool.or_true, Bool.or_false, Bool.and_true, Bool.and_false, Option.map_some, Option.map_none, Nat.zero_add, Nat.reduceBEq, Nat.reduceAdd, Nat.reduceLT, Nat.reduceEqDiff, reduceIte, reduceCtorEq, Nat.reduceLeDiff, Nat.reduceSub, List.reduceReplicate, Nat.reduceMul, Int.reduceToNat, Int.toNat_natCast, Nat.reducePow, reduceIte]; try rfl) (by simp only [push_cast, pos_nil, yF, Option.getD_some, Bool.or_true, Bool.or_false, Bool.and_true, Bool.and_false, Option.map_some, Option.map_none, Nat.zero_add, Nat.reduceBEq, Nat.reduceAdd, Nat.reduceLT, Nat.reduceEqDiff, reduceIte, reduceCtorEq, Nat.reduceLeDiff, Nat.reduceSub, List.reduceReplicate, Nat.reduceMul, Int.reduceToNat, Int.toNat_natCast, Nat.reducePow, reduceIte]; try rfl) ?_
  rintro _ _ ⟨rfl, rfl⟩
  refine hstop ?_; simp (maxSteps := 2000000) (disch := omega) only [push_cast, ↓Int.cast_ofNat_Int, Nat.reduceBEq, Nat.reduceAdd, Nat.reduceLT, Nat.reduceEqDiff, reduceIte, reduceCtorEq, Nat.reduceLeDiff, Nat.reduceSub, List.reduceReplicate, Nat.reduceMul, Int.reduceToNat, Int.toNat_natCast, Nat.reducePow, reduceIte, Option.getD_some, Bool.or_true, Bool.or_false, Bool.and_true, Bool.and_false, Nat.zero_add, pos_nil, yF, Option.map_some, Option.map_none]
  refine hK _ ?_; clear hK K
  (repeat first | refine zK ?_ | refine zG ?_ | refine zH ?_ | refine zF rfl ?_ | refine zL ?_ | refine zB ?_ | refine zE ?_ | refine zA ?_ | refine zC ?_ | refine zT ?_ | refine zW ?_)
  simp only [yA, yM, yH, yE, resH_cell, resC_go, yK, yJ, zS, zM, Nat.reduceEqDiff, reduceIte, reduceCtorEq]
  exact hres_v rfl
 ·have hz : decide (checkS a = 0) = false := decide_eq_false ha
  generalize checkS a = c at ca hz
  (repeat first | refine zE ?_ | refine zA ?_ | refine zC ?_ | refine zB ?_ | refine zD ?_); refine zJ (fun K hK => ?_); simp (maxSteps := 2000000) (disch := omega) only [push_cast, ↓Int.cast_ofNat_Int, Nat.reduceBEq, Nat.reduceAdd, Nat.reduceLT, Nat.reduceEqDiff, reduceIte, reduceCtorEq, Nat.reduceLeDiff, Nat.reduceSub, List.reduceReplicate, Nat.reduceMul, Int.reduceToNat, Int.toNat_natCast, Nat.reducePow, reduceIte]
  refine hatv cl14 tawake_H .nil ?_
  with_reducible refine hstop ?_; simp (maxSteps := 2000000) (disch := omega) only [push_cast, ↓Int.cast_ofNat_Int, Nat.reduceBEq, Nat.reduceAdd, Nat.reduceLT, Nat.reduceEqDiff, reduceIte, reduceCtorEq, Nat.reduceLeDiff, Nat.reduceSub, List.reduceReplicate, Nat.reduceMul, Int.reduceToNat, Int.toNat_natCast, Nat.reducePow, reduceIte]
  refine hatv cl16 ca (.cons (lendL (yT _)) .nil) ?_
  with_reducible refine hstop ?_; simp (maxSteps := 2000000) (disch := omega) only [push_cast, ↓Int.cast_ofNat_Int, Nat.reduceBEq, Nat.reduceAdd, Nat.reduceLT, Nat.reduceEqDiff, reduceIte, reduceCtorEq, Nat.reduceLeDiff, Nat.reduceSub, List.reduceReplicate, Nat.reduceMul, Int.reduceToNat, Int.toNat_natCast, Nat.reducePow, reduceIte, hz]
  refine hK _ ?_; clear hK K
  refine yD rfl ?_
  (repeat first | refine zE ?_ | refine zA ?_ | refine zC ?_ | refine zB ?_ | refine zD ?_); refine zJ (fun K hK => ?_); simp (maxSteps := 2000000) (disch := omega) only [push_cast, ↓Int.cast_ofNat_Int, Nat.reduceBEq, Nat.reduceAdd, Nat.reduceLT, Nat.reduceEqDiff, reduceIte, reduceCtorEq, Nat.reduceLeDiff, Nat.reduceSub, List.reduceReplicate, Nat.reduceMul, Int.reduceToNat, Int.toNat_natCast, Nat.reducePow, reduceIte]
  refine hatv cl14 tawake_H .nil ?_
  with_reducible refine hstop ?_; simp (maxSteps := 2000000) (disch := omega) only [push_cast, ↓Int.cast_ofNat_Int, Nat.reduceBEq, Nat.reduceAdd, Nat.reduceLT, Nat.reduceEqDiff, reduceIte, reduceCtorEq, Nat.reduceLeDiff, Nat.reduceSub, List.reduceReplicate, Nat.reduceMul, Int.reduceToNat, Int.toNat_natCast, Nat.reducePow, reduceIte]
  refine hK _ ?_; clear hK K
  (repeat first | refine zK ?_ | refine zG ?_ | refine zH ?_ | refine zF rfl ?_ | refine zL ?_ | refine zB ?_ | refine zE ?_ | refine zA ?_ | refine zC ?_ | refine zT ?_ | refine zW ?_)
  simp only [yA, yM, yH, yE, resH_cell, resC_go, yK, yJ, zS, zM, Nat.reduceEqDiff, reduceIte, reduceCtorEq]
  exact hres_v rfl
theorem treePuts_U (a : List Ent) (p : ByteArray) (n : Int × ByteArray) (hu : fw (.lst false (ents a)) + (fw (.v (.string p)) + (fwN n + 0)) ≤ 1048576) : HFun Tryd.prog 4 [.lst false (ents a), .v (.string p), nodeH n] (fun h st => h = .v (.bool true)) := by
 obtain ⟨h1, h2⟩ := fw_ents a
 rw [fw_str] at hu
 exact treePuts_H a p n (by omega) (fun e he => by have := (h2 e he).1; omega) (by omega)
end Go.Proofs.YtkonlklieacjoaaDoor
