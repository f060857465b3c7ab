/-
  The law TreeReplaces.
-/
import Derived.Test.YtkonlklieacjoaaDoorTqC
import Derived.Test.YtkonlklieacjoaaDoorTrQ
import Derived.Test.YtkonlklieacjoaaDoorUpe
import Derived.Test.YtkonlklieacjoaaDoorTrR
import Derived.Test.YtkonlklieacjoaaDoorAeH
import Derived.Test.YtkonlklieacjoaaDoorHau
set_option linter.unusedSimpArgs false
set_option linter.unusedVariables false
set_option maxRecDepth 20000
namespace Go.Proofs.YtkonlklieacjoaaDoor
open Go Go.Eng Go.RowKit Go.Tr
theorem spare_takeR (a : List Ent) : (ents (a ++ [spare])).take a.length = ents a := by rw [ents_take, List.take_left' rfl]
theorem apart44_H (a b d e : List Ent) (n0 n1 n2 n3 n4 : Bool) (ha : a.length ≤ 1000000000) (hb : b.length ≤ 1000000000) (hd : d.length ≤ 1000000000) (he : e.length ≤ 1000000000) :
  HFunS Tryd.prog 23 [.own 0] [(0, .hl n0 22 1 [[.own 1], [.own 2], [.own 3], [.own 4]]), (1, .sl n1 68 3 (ents a)), (2, .sl n2 68 3 (ents b)), (3, .sl n3 68 3 (ents d)), (4, .sl n4 68 3 (ents e))] (fun h st' => h = .v (.bool true) ∧ st' = []) :=
 apart4_H (n := 4) (fun i => i + 1) (fun i => [n1, n2, n3, n4].getD i false) (fun i => [a, b, d, e].getD i []) rfl rfl (fun i hi => by match i, hi with | 0, _ => rfl | 1, _ => rfl | 2, _ => rfl | 3, _ => rfl) (fun i hi => by match i, hi with | 0, _ => rfl | 1, _ => rfl | 2, _ => rfl | 3, _ => rfl) (fun i j _ _ e => by omega) (fun i _ => by omega)
  (fun j h => by match j, h with | 0, h => exact h | 1, h => exact h | 2, h => exact h | 3, h => exact h | 4, h => exact h | j + 5, h => exact h) (by omega) (fun i hi => by match i, hi with | 0, _ => exact ha | 1, _ => exact hb | 2, _ => exact hd | 3, _ => exact he)
theorem rplT_len (t : List Ent) (p : ByteArray) (u : List Ent) : (rplT t p u).length ≤ t.length + u.length := by
 unfold rplT
 split
 ·rw [(sortS_perm _).length_eq, rplL, List.length_append]
  have := List.length_filter_le (fun e : Ent => !undr e.1 p) t
  omega
 ·simp
set_option maxHeartbeats 8000000 in
theorem treeReplaces_H (a : List Ent) (p : ByteArray) (u : List Ent) (hla : a.length ≤ 1048576) (hlu : u.length ≤ 1048576) (hsa : ∀ e ∈ a, e.1.size ≤ 1048576) (hsu : ∀ e ∈ u, e.1.size ≤ 1048576) (hp : p.size ≤ 1048576) :
  HFun Tryd.prog 8 [.lst false (ents a), .v (.string p), .lst false (ents u)] (fun h st => h = .v (.bool true)) := by
 refine hfun (N := 79) Tryd.func8 rfl Tryd.ntmps8 Tryd.results8 (by simp) ?_
 have ca := rcheck_H a (by omega) hsa
 (repeat first | refine zE ?_ | refine zA ?_ | refine zC ?_ | refine zB ?_ | refine zD ?_); refine zJ (fun K hK => ?_); simp (maxSteps := 2000000) (disch := omega) only [push_cast, ↓Int.cast_ofNat_Int, Nat.reduceBEq, Nat.reduceAdd, Nat.reduceLT, Nat.reduceEqDiff, reduceIte, reduceCtorEq, Nat.reduceLeDiff, Nat.reduceSub, List.reduceReplicate, Nat.reduceMul, Int.reduceToNat, Int.toNat_natCast, Nat.reducePow, reduceIte]; refine hK _ ?_; clear hK K
 by_cases ha : checkS a = 0
 ·rw [ha] at ca
  (repeat first | refine zE ?_ | refine zA ?_ | refine zC ?_ | refine zB ?_ | refine zD ?_); refine zJ (fun K hK => ?_); simp (maxSteps := 2000000) (disch := omega) only [push_cast, ↓Int.cast_ofNat_Int, Nat.reduceBEq, Nat.reduceAdd, Nat.reduceLT, Nat.reduceEqDiff, reduceIte, reduceCtorEq, Nat.reduceLeDiff, Nat.reduceSub, List.reduceReplicate, Nat.reduceMul, Int.reduceToNat, Int.toNat_natCast, Nat.reducePow, reduceIte]
  refine hatv cl14 tawake_H .nil ?_
  with_reducible refine hstop ?_; simp (maxSteps := 2000000) (disch := omega) only [push_cast, ↓Int.cast_ofNat_Int, Nat.reduceBEq, Nat.reduceAdd, Nat.reduceLT, Nat.reduceEqDiff, reduceIte, reduceCtorEq, Nat.reduceLeDiff, Nat.reduceSub, List.reduceReplicate, Nat.reduceMul, Int.reduceToNat, Int.toNat_natCast, Nat.reducePow, reduceIte]
  refine hatv cl16 ca (.cons (lendL (yT _)) .nil) ?_
  with_reducible refine hstop ?_; simp (maxSteps := 2000000) (disch := omega) only [push_cast, ↓Int.cast_ofNat_Int, Nat.reduceBEq, Nat.reduceAdd, Nat.reduceLT, Nat.reduceEqDiff, reduceIte, reduceCtorEq, Nat.reduceLeDiff, Nat.reduceSub, List.reduceReplicate, Nat.reduceMul, Int.reduceToNat, Int.toNat_natCast, Nat.reducePow, reduceIte]
  refine hK _ ?_; clear hK K
  refine yC rfl ?_
  (repeat first | refine zE ?_ | refine zA ?_ | refine zC ?_ | refine zB ?_ | refine zD ?_)
  have ho : olds (((ents (a ++ [spare])).drop 0).take a.length) = ents a := by rw [List.drop_zero, spare_takeR, yT]
  have ho2 : olds (((ents (u ++ [spare])).drop 0).take u.length) = ents u := by rw [List.drop_zero, spare_takeR, yT]
  have c37 := replace_H a p u hla hlu hp hsa hsu
  have c38 := rreplace_H a p u hla hlu hp hsa hsu
  have dl := rplT_len a p u
  generalize rplT a p u = D at *
  generalize rplE a p u = e at *
  have c22 := rsame_H D D (by omega)
  rw [decide_eq_true rfl] at c22
  (repeat first | refine zE ?_ | refine zA ?_ | refine zC ?_ | refine zB ?_ | refine zD ?_); refine zJ (fun K hK => ?_); simp (maxSteps := 2000000) (disch := omega) only [push_cast, ↓Int.cast_ofNat_Int, Nat.reduceBEq, Nat.reduceAdd, Nat.reduceLT, Nat.reduceEqDiff, reduceIte, reduceCtorEq, Nat.reduceLeDiff, Nat.reduceSub, List.reduceReplicate, Nat.reduceMul, Int.reduceToNat, Int.toNat_natCast, Nat.reducePow, reduceIte]
  refine hat 192 cl13 (roomy_H a hla) (.cons (lendL (yT _)) .nil) ?_
  rintro _ _ ⟨rfl, rfl⟩
  with_reducible refine hstop ?_; simp (maxSteps := 2000000) (disch := omega) only [push_cast, ↓Int.cast_ofNat_Int, Nat.reduceBEq, Nat.reduceAdd, Nat.reduceLT, Nat.reduceEqDiff, reduceIte, reduceCtorEq, Nat.reduceLeDiff, Nat.reduceSub, List.reduceReplicate, Nat.reduceMul, Int.reduceToNat, Int.toNat_natCast, Nat.reducePow, reduceIte]
  refine hat 208 cl13 (roomy_H u hlu) (.cons (lendL (yT _)) .nil) ?_
  rintro _ _ ⟨rfl, rfl⟩
  with_reducible refine hstop ?_; simp (maxSteps := 2000000) (disch := omega) only [push_cast, ↓Int.cast_ofNat_Int, Nat.reduceBEq, Nat.reduceAdd, Nat.reduceLT, Nat.reduceEqDiff, reduceIte, reduceCtorEq, Nat.reduceLeDiff, Nat.reduceSub, List.reduceReplicate, Nat.reduceMul, Int.reduceToNat, Int.toNat_natCast, Nat.reducePow, reduceIte]
  refine hK _ ?_; clear hK K
  refine yB [0, 1, 2, 7, 8] [192, 208] (by simp only [zZ, zR, zP, zQ, zN, zS, zM, zX, zU, Nat.reduceEqDiff, reduceIte]; exact rfl) ?_
  (repeat first | refine zE ?_ | refine zA ?_ | refine zC ?_ | refine zB ?_ | refine zD ?_); refine zJ (fun K hK => ?_); simp (maxSteps := 2000000) (disch := omega) only [push_cast, ↓Int.cast_ofNat_Int, Nat.reduceBEq, Nat.reduceAdd, Nat.reduceLT, Nat.reduceEqDiff, reduceIte, reduceCtorEq, Nat.reduceLeDiff, Nat.reduceSub, List.reduceReplicate, Nat.reduceMul, Int.reduceToNat, Int.toNat_natCast, Nat.reducePow, reduceIte]
  refine hat 248 cl37 c37 (.cons (lendV ho rfl) (.cons (.v _) (.cons (lendV ho2 rfl) .nil))) ?_
  rintro _ _ ⟨rfl, rfl⟩
  with_reducible refine hstop ?_; simp (maxSteps := 2000000) (disch := omega) only [push_cast, ↓Int.cast_ofNat_Int, Nat.reduceBEq, Nat.reduceAdd, Nat.reduceLT, Nat.reduceEqDiff, reduceIte, reduceCtorEq, Nat.reduceLeDiff, Nat.reduceSub, List.reduceReplicate, Nat.reduceMul, Int.reduceToNat, Int.toNat_natCast, Nat.reducePow, reduceIte]
  refine hK _ ?_; clear hK K
  refine yB [0, 1, 2, 7, 8, 9, 10] [192, 208, 248] (by simp only [zZ, zR, zP, zQ, zN, zS, zM, zX, zU, Nat.reduceEqDiff, reduceIte]; exact rfl) ?_
  (repeat first | refine zE ?_ | refine zA ?_ | refine zC ?_ | refine zB ?_ | refine zD ?_); refine zJ (fun K hK => ?_); simp (maxSteps := 2000000) (disch := omega) only [push_cast, ↓Int.cast_ofNat_Int, Nat.reduceBEq, Nat.reduceAdd, Nat.reduceLT, Nat.reduceEqDiff, reduceIte, reduceCtorEq, Nat.reduceLeDiff, Nat.reduceSub, List.reduceReplicate, Nat.reduceMul, Int.reduceToNat, Int.toNat_natCast, Nat.reducePow, reduceIte]
  refine hat 304 cl38 c38 (.cons (lendL (yT _)) (.cons (.v _) (.cons (lendL (yT _)) .nil))) ?_
  rintro _ _ ⟨rfl, rfl⟩
  with_reducible refine hstop ?_; simp (maxSteps := 2000000) (disch := omega) only [push_cast, ↓Int.cast_ofNat_Int, Nat.reduceBEq, Nat.reduceAdd, Nat.reduceLT, Nat.reduceEqDiff, reduceIte, reduceCtorEq, Nat.reduceLeDiff, Nat.reduceSub, List.reduceReplicate, Nat.reduceMul, Int.reduceToNat, Int.toNat_natCast, Nat.reducePow, reduceIte]
  refine hK _ ?_; clear hK K
  refine yB [0, 1, 2, 7, 8, 9, 10, 11, 12] [192, 208, 248, 304] (by simp only [zZ, zR, zP, zQ, zN, zS, zM, zX, zU, Nat.reduceEqDiff, reduceIte]; exact rfl) ?_
  (repeat first | refine zE ?_ | refine zA ?_ | refine zC ?_ | refine zB ?_ | refine zD ?_); refine zJ (fun K hK => ?_); simp (maxSteps := 2000000) (disch := omega) only [push_cast, ↓Int.cast_ofNat_Int, Nat.reduceBEq, Nat.reduceAdd, Nat.reduceLT, Nat.reduceEqDiff, reduceIte, reduceCtorEq, Nat.reduceLeDiff, Nat.reduceSub, List.reduceReplicate, Nat.reduceMul, Int.reduceToNat, Int.toNat_natCast, Nat.reducePow, reduceIte]
  refine hat 360 cl37 c37 (.cons (lendV ho rfl) (.cons (.v _) (.cons (lendV ho2 rfl) .nil))) ?_
  rintro _ _ ⟨rfl, rfl⟩
  with_reducible refine hstop ?_; simp (maxSteps := 2000000) (disch := omega) only [push_cast, ↓Int.cast_ofNat_Int, Nat.reduceBEq, Nat.reduceAdd, Nat.reduceLT, Nat.reduceEqDiff, reduceIte, reduceCtorEq, Nat.reduceLeDiff, Nat.reduceSub, List.reduceReplicate, Nat.reduceMul, Int.reduceToNat, Int.toNat_natCast, Nat.reducePow, reduceIte]
  refine hK _ ?_; clear hK K
  refine yB [0, 2, 7, 8, 9, 10, 11, 12, 13] [192, 208, 248, 304, 360] (by simp only [zZ, zR, zP, zQ, zN, zS, zM, zX, zU, Nat.reduceEqDiff, reduceIte]; exact rfl) ?_
  refine HW_name 192 1000000 (by decide) rfl rfl (by simp only [name_eq, nm_eq, eren_nil, eren_cons, sren_nil, sren_cons, hren_v, hren_lst, hren_own, hren_ptr, hren_vw, hren_agg, hren_tup, hren_junk, rren_sl, rren_bx, rren_hl, Nat.reduceMul, Nat.reduceAdd, Nat.reduceEqDiff, reduceIte, List.map_cons, List.map_nil]; exact rfl) ?_
  refine HW_name 208 1000003 (by decide) rfl rfl (by simp only [name_eq, nm_eq, eren_nil, eren_cons, sren_nil, sren_cons, hren_v, hren_lst, hren_own, hren_ptr, hren_vw, hren_agg, hren_tup, hren_junk, rren_sl, rren_bx, rren_hl, Nat.reduceMul, Nat.reduceAdd, Nat.reduceEqDiff, reduceIte, List.map_cons, List.map_nil]; exact rfl) ?_
  refine HW_name 248 1000001 (by decide) rfl rfl (by simp only [name_eq, nm_eq, eren_nil, eren_cons, sren_nil, sren_cons, hren_v, hren_lst, hren_own, hren_ptr, hren_vw, hren_agg, hren_tup, hren_junk, rren_sl, rren_bx, rren_hl, Nat.reduceMul, Nat.reduceAdd, Nat.reduceEqDiff, reduceIte, List.map_cons, List.map_nil]; exact rfl) ?_
  refine HW_name 360 1000002 (by decide) rfl rfl (by simp only [name_eq, nm_eq, eren_nil, eren_cons, sren_nil, sren_cons, hren_v, hren_lst, hren_own, hren_ptr, hren_vw, hren_agg, hren_tup, hren_junk, rren_sl, rren_bx, rren_hl, Nat.reduceMul, Nat.reduceAdd, Nat.reduceEqDiff, reduceIte, List.map_cons, List.map_nil]; exact rfl) ?_
  have hlt : a.length < (ents (a ++ [spare])).length := by rw [yV, List.length_append]; simp
  have hlt2 : u.length < (ents (u ++ [spare])).length := by rw [yV, List.length_append]; simp
  (repeat first | refine zE ?_ | refine zA ?_ | refine zC ?_ | refine zB ?_ | refine zD ?_); refine HW_regS (fun K hK => ?_)
  refine HV2s_cut 23 [7, 8, 9, 13, 70, 71, 72, 73, 74, 75, 76, 77, 78] [1000000, 1000001, 1000002, 1000003] ?_; simp (maxSteps := 2000000) (disch := omega) only [push_cast, ↓Int.cast_ofNat_Int, Nat.reduceBEq, Nat.reduceAdd, Nat.reduceLT, Nat.reduceEqDiff, reduceIte, reduceCtorEq, Nat.reduceLeDiff, Nat.reduceSub, List.reduceReplicate, Nat.reduceMul, Int.reduceToNat, Int.toNat_natCast, Nat.reducePow, reduceIte]
  refine hatv cl22 c22 (.cons (lendO (yT _) rfl) (.cons (lendO (yT _) rfl) .nil)) ?_
  with_reducible refine hstop ?_; simp (maxSteps := 2000000) (disch := omega) only [push_cast, ↓Int.cast_ofNat_Int, Nat.reduceBEq, Nat.reduceAdd, Nat.reduceLT, Nat.reduceEqDiff, reduceIte, reduceCtorEq, Nat.reduceLeDiff, Nat.reduceSub, List.reduceReplicate, Nat.reduceMul, Int.reduceToNat, Int.toNat_natCast, Nat.reducePow, reduceIte]
  refine hatv cl22 c22 (.cons (lendO (yT _) rfl) (.cons (lendO (yT _) rfl) .nil)) ?_
  with_reducible refine hstop ?_; simp (maxSteps := 2000000) (disch := omega) only [push_cast, ↓Int.cast_ofNat_Int, Nat.reduceBEq, Nat.reduceAdd, Nat.reduceLT, Nat.reduceEqDiff, reduceIte, reduceCtorEq, Nat.reduceLeDiff, Nat.reduceSub, List.reduceReplicate, Nat.reduceMul, Int.reduceToNat, Int.toNat_natCast, Nat.reducePow, reduceIte]
  refine held_at hla rfl (lendL (yT _)) ?_
  with_reducible refine hstop ?_; simp (maxSteps := 2000000) (disch := omega) only [push_cast, ↓Int.cast_ofNat_Int, Nat.reduceBEq, Nat.reduceAdd, Nat.reduceLT, Nat.reduceEqDiff, reduceIte, reduceCtorEq, Nat.reduceLeDiff, Nat.reduceSub, List.reduceReplicate, Nat.reduceMul, Int.reduceToNat, Int.toNat_natCast, Nat.reducePow, reduceIte]
  refine held_at hlu rfl (lendL (yT _)) ?_
  with_reducible refine hstop ?_; simp (maxSteps := 2000000) (disch := omega) only [push_cast, ↓Int.cast_ofNat_Int, Nat.reduceBEq, Nat.reduceAdd, Nat.reduceLT, Nat.reduceEqDiff, reduceIte, reduceCtorEq, Nat.reduceLeDiff, Nat.reduceSub, List.reduceReplicate, Nat.reduceMul, Int.reduceToNat, Int.toNat_natCast, Nat.reducePow, reduceIte]
  refine hstop ?_; simp only [zZ, zR, zP, zQ, zN, zS, zM, zX, zU, Nat.reduceEqDiff, reduceIte, List.drop_succ_cons, List.drop_zero]
  refine HV2s_trim 1000000 (a.length) rfl (by exact hlt) (by simp only [trim_eq, etrim_nil, etrim_cons, strim_nil, strim_cons, htrim_v, htrim_lst, htrim_own, htrim_ptr, htrim_vw, htrim_agg, htrim_tup, htrim_junk, rtrim_sl, rtrim_bx, rtrim_hl, Nat.sub_zero, true_and, eq_self, and_self, Nat.reduceMul, Nat.reduceAdd, Nat.reduceEqDiff, reduceIte, List.map_cons, List.map_nil, spare_takeR]; exact rfl) ?_
  refine HV2s_trim 1000003 (u.length) rfl (by exact hlt2) (by simp only [trim_eq, etrim_nil, etrim_cons, strim_nil, strim_cons, htrim_v, htrim_lst, htrim_own, htrim_ptr, htrim_vw, htrim_agg, htrim_tup, htrim_junk, rtrim_sl, rtrim_bx, rtrim_hl, Nat.sub_zero, true_and, eq_self, and_self, Nat.reduceMul, Nat.reduceAdd, Nat.reduceEqDiff, reduceIte, List.map_cons, List.map_nil, spare_takeR]; exact rfl) ?_
  refine HV2s_end ?_; simp (maxSteps := 2000000) (disch := omega) only [push_cast, ↓Int.cast_ofNat_Int, Nat.reduceBEq, Nat.reduceAdd, Nat.reduceLT, Nat.reduceEqDiff, reduceIte, reduceCtorEq, Nat.reduceLeDiff, Nat.reduceSub, List.reduceReplicate, Nat.reduceMul, Int.reduceToNat, Int.toNat_natCast, Nat.reducePow, reduceIte]
  refine hatS 616 [608, 1000001, 1000002, 1000000, 1000003] cl23 (apart44_H D D a u true true true true true (by omega) (by omega) (by omega) (by omega)) rfl (by decide) (by decide) (by simp only [push_cast, pos_nil, yF, Option.getD_some, Bool.or_true, Bool.or_false, Bool.and_true, Bool.and_false, Option.map_some, Option.map_none, Nat.zero_add, Nat.reduceBEq, Nat.reduceAdd, Nat.reduceLT, Nat.reduceEqDiff, reduceIte, reduceCtorEq, Nat.reduceLeDiff, Nat.reduceSub, List.reduceReplicate, Nat.reduceMul, Int.reduceToNat, Int.toNat_natCast, Nat.reducePow, reduceIte]; try rfl) (by simp only [push_cast, pos_nil, yF, Option.getD_some, Bool.or_true, Bool.or_false, Bool.and_true, Bool.and_false, Option.map_some, Option.map_none, Nat.zero_add, Nat.reduceBEq, Nat.reduceAdd, Nat.reduceLT, Nat.reduceEqDiff, reduceIte, reduceCtorEq, Nat.reduceLeDiff, Nat.reduceSub, List.reduceReplicate, Nat.reduceMul, Int.reduceToNat, Int.toNat_natCast, Nat.reducePow, reduceIte]; try rfl) ?_
  rintro _ _ ⟨rfl, rfl⟩
  refine hstop ?_; simp (maxSteps := 2000000) (disch := omega) only [push_cast, ↓Int.cast_ofNat_Int, Nat.reduceBEq, Nat.reduceAdd, Nat.reduceLT, Nat.reduceEqDiff, reduceIte, reduceCtorEq, Nat.reduceLeDiff, Nat.reduceSub, List.reduceReplicate, Nat.reduceMul, Int.reduceToNat, Int.toNat_natCast, Nat.reducePow, reduceIte, Option.getD_some, Bool.or_true, Bool.or_false, Bool.and_true, Bool.and_false, Nat.zero_add, pos_nil, yF, Option.map_some, Option.map_none]
  refine hK _ ?_; clear hK K
  (repeat first | refine zK ?_ | refine zG ?_ | refine zH ?_ | refine zF rfl ?_ | refine zL ?_ | refine zB ?_ | refine zE ?_ | refine zA ?_ | refine zC ?_ | refine zT ?_ | refine zW ?_)
  simp only [yA, yM, yH, yE, resH_cell, resC_go, yK, yJ, zS, zM, Nat.reduceEqDiff, reduceIte, reduceCtorEq]
  exact hres_v rfl
 ·have hz : decide (checkS a = 0) = false := decide_eq_false ha
  generalize checkS a = c at ca hz
  (repeat first | refine zE ?_ | refine zA ?_ | refine zC ?_ | refine zB ?_ | refine zD ?_); refine zJ (fun K hK => ?_); simp (maxSteps := 2000000) (disch := omega) only [push_cast, ↓Int.cast_ofNat_Int, Nat.reduceBEq, Nat.reduceAdd, Nat.reduceLT, Nat.reduceEqDiff, reduceIte, reduceCtorEq, Nat.reduceLeDiff, Nat.reduceSub, List.reduceReplicate, Nat.reduceMul, Int.reduceToNat, Int.toNat_natCast, Nat.reducePow, reduceIte]
  refine hatv cl14 tawake_H .nil ?_
  with_reducible refine hstop ?_; simp (maxSteps := 2000000) (disch := omega) only [push_cast, ↓Int.cast_ofNat_Int, Nat.reduceBEq, Nat.reduceAdd, Nat.reduceLT, Nat.reduceEqDiff, reduceIte, reduceCtorEq, Nat.reduceLeDiff, Nat.reduceSub, List.reduceReplicate, Nat.reduceMul, Int.reduceToNat, Int.toNat_natCast, Nat.reducePow, reduceIte]
  refine hatv cl16 ca (.cons (lendL (yT _)) .nil) ?_
  with_reducible refine hstop ?_; simp (maxSteps := 2000000) (disch := omega) only [push_cast, ↓Int.cast_ofNat_Int, Nat.reduceBEq, Nat.reduceAdd, Nat.reduceLT, Nat.reduceEqDiff, reduceIte, reduceCtorEq, Nat.reduceLeDiff, Nat.reduceSub, List.reduceReplicate, Nat.reduceMul, Int.reduceToNat, Int.toNat_natCast, Nat.reducePow, reduceIte, hz]
  refine hK _ ?_; clear hK K
  refine yD rfl ?_
  (repeat first | refine zE ?_ | refine zA ?_ | refine zC ?_ | refine zB ?_ | refine zD ?_); refine zJ (fun K hK => ?_); simp (maxSteps := 2000000) (disch := omega) only [push_cast, ↓Int.cast_ofNat_Int, Nat.reduceBEq, Nat.reduceAdd, Nat.reduceLT, Nat.reduceEqDiff, reduceIte, reduceCtorEq, Nat.reduceLeDiff, Nat.reduceSub, List.reduceReplicate, Nat.reduceMul, Int.reduceToNat, Int.toNat_natCast, Nat.reducePow, reduceIte]
  refine hatv cl14 tawake_H .nil ?_
  with_reducible refine hstop ?_; simp (maxSteps := 2000000) (disch := omega) only [push_cast, ↓Int.cast_ofNat_Int, Nat.reduceBEq, Nat.reduceAdd, Nat.reduceLT, Nat.reduceEqDiff, reduceIte, reduceCtorEq, Nat.reduceLeDiff, Nat.reduceSub, List.reduceReplicate, Nat.reduceMul, Int.reduceToNat, Int.toNat_natCast, Nat.reducePow, reduceIte]
  refine hK _ ?_; clear hK K
  (repeat first | refine zK ?_ | refine zG ?_ | refine zH ?_ | refine zF rfl ?_ | refine zL ?_ | refine zB ?_ | refine zE ?_ | refine zA ?_ | refine zC ?_ | refine zT ?_ | refine zW ?_)
  simp only [yA, yM, yH, yE, resH_cell, resC_go, yK, yJ, zS, zM, Nat.reduceEqDiff, reduceIte, reduceCtorEq]
  exact hres_v rfl
theorem treeReplaces_U (a : List Ent) (p : ByteArray) (u : List Ent) (hu : fw (.lst false (ents a)) + (fw (.v (.string p)) + (fw (.lst false (ents u)) + 0)) ≤ 1048576) : HFun Tryd.prog 8 [.lst false (ents a), .v (.string p), .lst false (ents u)] (fun h st => h = .v (.bool true)) := by
 obtain ⟨h1, h2⟩ := fw_ents a
 obtain ⟨h3, h4⟩ := fw_ents u
 rw [fw_str] at hu
 exact treeReplaces_H a p u (by omega) (by omega) (fun e he => by have := (h2 e he).1; omega) (fun e he => by have := (h4 e he).1; omega) (by omega)
end Go.Proofs.YtkonlklieacjoaaDoor
