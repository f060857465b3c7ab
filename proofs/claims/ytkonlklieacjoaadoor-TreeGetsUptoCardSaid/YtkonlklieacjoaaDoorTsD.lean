/-
  The law TreeGets.
-/
import Derived.Test.YtkonlklieacjoaaDoorTsC
import Derived.Test.YtkonlklieacjoaaDoorTrW
import Derived.Test.YtkonlklieacjoaaDoorTrQ
import Derived.Test.YtkonlklieacjoaaDoorTrV
import Derived.Test.YtkonlklieacjoaaDoorUpe
import Derived.Test.YtkonlklieacjoaaDoorTrR
import Derived.Test.YtkonlklieacjoaaDoorAeH
import Derived.Test.YtkonlklieacjoaaDoorHau
set_option linter.unusedSimpArgs false
set_option linter.unusedVariables false
set_option maxRecDepth 20000
namespace Go.Proofs.YtkonlklieacjoaaDoor
open Go Go.Eng Go.RowKit Go.Tr
theorem spare_take (a : List Ent) : (ents (a ++ [spare])).take a.length = ents a := by rw [ents_take, List.take_left' rfl]
set_option maxHeartbeats 8000000 in
theorem treeGets_H (a b : List Ent) (p : ByteArray) (hla : a.length ≤ 1048576) (hlb : b.length ≤ 1048576) (hsa : ∀ e ∈ a, e.1.size ≤ 1048576 ∧ e.2.2.size ≤ 1048576) (hsb : ∀ e ∈ b, e.1.size ≤ 1048576) (hp : p.size ≤ 1048576) :
  HFun Tryd.prog 5 [.lst false (ents a), .lst false (ents b), .v (.string p)] (fun h st => h = .v (.bool true)) := by
 refine hfun (N := 88) Tryd.func5 rfl Tryd.ntmps5 Tryd.results5 (by simp) ?_
 have ca := rcheck_H a (by omega) (fun e he => (hsa e he).1)
 have cb := rcheck_H b (by omega) hsb
 (repeat first | refine zE ?_ | refine zA ?_ | refine zC ?_ | refine zB ?_ | refine zD ?_); refine zJ (fun K hK => ?_); simp (maxSteps := 2000000) (disch := omega) only [push_cast, ↓Int.cast_ofNat_Int, Nat.reduceBEq, Nat.reduceAdd, Nat.reduceLT, Nat.reduceEqDiff, reduceIte, reduceCtorEq, Nat.reduceLeDiff, Nat.reduceSub, List.reduceReplicate, Nat.reduceMul, Int.reduceToNat, Int.toNat_natCast, Nat.reducePow, reduceIte]; refine hK _ ?_; clear hK K
 by_cases ha : checkS a = 0
 ·rw [ha] at ca
  by_cases hb : checkS b = 0
  ·rw [hb] at cb
   (repeat first | refine zE ?_ | refine zA ?_ | refine zC ?_ | refine zB ?_ | refine zD ?_); refine zJ (fun K hK => ?_); simp (maxSteps := 2000000) (disch := omega) only [push_cast, ↓Int.cast_ofNat_Int, Nat.reduceBEq, Nat.reduceAdd, Nat.reduceLT, Nat.reduceEqDiff, reduceIte, reduceCtorEq, Nat.reduceLeDiff, Nat.reduceSub, List.reduceReplicate, Nat.reduceMul, Int.reduceToNat, Int.toNat_natCast, Nat.reducePow, reduceIte]
   refine hatv cl14 tawake_H .nil ?_
   with_reducible refine hstop ?_; simp (maxSteps := 2000000) (disch := omega) only [push_cast, ↓Int.cast_ofNat_Int, Nat.reduceBEq, Nat.reduceAdd, Nat.reduceLT, Nat.reduceEqDiff, reduceIte, reduceCtorEq, Nat.reduceLeDiff, Nat.reduceSub, List.reduceReplicate, Nat.reduceMul, Int.reduceToNat, Int.toNat_natCast, Nat.reducePow, reduceIte]
   refine hatv cl16 ca (.cons (lendL (yT _)) .nil) ?_
   with_reducible refine hstop ?_; simp (maxSteps := 2000000) (disch := omega) only [push_cast, ↓Int.cast_ofNat_Int, Nat.reduceBEq, Nat.reduceAdd, Nat.reduceLT, Nat.reduceEqDiff, reduceIte, reduceCtorEq, Nat.reduceLeDiff, Nat.reduceSub, List.reduceReplicate, Nat.reduceMul, Int.reduceToNat, Int.toNat_natCast, Nat.reducePow, reduceIte]
   refine hatv cl16 cb (.cons (lendL (yT _)) .nil) ?_
   with_reducible refine hstop ?_; simp (maxSteps := 2000000) (disch := omega) only [push_cast, ↓Int.cast_ofNat_Int, Nat.reduceBEq, Nat.reduceAdd, Nat.reduceLT, Nat.reduceEqDiff, reduceIte, reduceCtorEq, Nat.reduceLeDiff, Nat.reduceSub, List.reduceReplicate, Nat.reduceMul, Int.reduceToNat, Int.toNat_natCast, Nat.reducePow, reduceIte]
   refine hK _ ?_; clear hK K
   refine yC rfl ?_
   (repeat first | refine zE ?_ | refine zA ?_ | refine zC ?_ | refine zB ?_ | refine zD ?_)
   obtain ⟨la, oka⟩ := checkS_ok ha
   obtain ⟨lb, okb⟩ := checkS_ok hb
   have ra := okR_rise oka
   have rb := okR_rise okb
   have ho : olds (((ents (a ++ [spare])).drop 0).take a.length) = ents a := by rw [List.drop_zero, spare_take, yT]
   have c24 := sub_H a p (by omega) (fun e he => (hsa e he).1) hp
   have c27 := rsub_H a p (by omega) (fun e he => (hsa e he).1) hp
   have c25 := get_H a p ra (by omega)
   have c26 := rget_H a p (by omega)
   have c28 := size_H a (by omega) (fun e he => (hsa e he).2)
   have c29 := rsize_H a (by omega) (fun e he => (hsa e he).2)
   have c30 := tsame_H a b (by omega)
   have c22ab := rsame_H a b (by omega)
   have c32 := diff_H a b (by omega)
   have c33 := rdiff_H a b (by omega) (by omega)
   rw [rdiff_diff ra rb (okR_kinds oka) (okR_kinds okb)] at c33
   have dl := diffS_len a b
   have c31 := ssame_H (diffS a b) (diffS a b) (by omega)
   rw [decide_eq_true rfl] at c31
   have fl : (a.filter fun e => undr e.1 p).length ≤ a.length := List.length_filter_le ..
   generalize a.filter (fun e => undr e.1 p) = F at *
   generalize diffS a b = D at *
   generalize getN a p = na at c25 c26
   obtain ⟨ka, da⟩ := na
   have c22F := rsame_H F F (by omega)
   rw [decide_eq_true rfl] at c22F
   (repeat first | refine zE ?_ | refine zA ?_ | refine zC ?_ | refine zB ?_ | refine zD ?_); refine zJ (fun K hK => ?_); simp (maxSteps := 2000000) (disch := omega) only [push_cast, ↓Int.cast_ofNat_Int, Nat.reduceBEq, Nat.reduceAdd, Nat.reduceLT, Nat.reduceEqDiff, reduceIte, reduceCtorEq, Nat.reduceLeDiff, Nat.reduceSub, List.reduceReplicate, Nat.reduceMul, Int.reduceToNat, Int.toNat_natCast, Nat.reducePow, reduceIte]
   refine hat 192 cl13 (roomy_H a hla) (.cons (lendL (yT _)) .nil) ?_
   rintro _ _ ⟨rfl, rfl⟩
   with_reducible refine hstop ?_; simp (maxSteps := 2000000) (disch := omega) only [push_cast, ↓Int.cast_ofNat_Int, Nat.reduceBEq, Nat.reduceAdd, Nat.reduceLT, Nat.reduceEqDiff, reduceIte, reduceCtorEq, Nat.reduceLeDiff, Nat.reduceSub, List.reduceReplicate, Nat.reduceMul, Int.reduceToNat, Int.toNat_natCast, Nat.reducePow, reduceIte]
   refine hK _ ?_; clear hK K
   (repeat first | refine zE ?_ | refine zA ?_ | refine zC ?_ | refine zB ?_ | refine zD ?_); refine zJ (fun K hK => ?_); simp (maxSteps := 2000000) (disch := omega) only [push_cast, ↓Int.cast_ofNat_Int, Nat.reduceBEq, Nat.reduceAdd, Nat.reduceLT, Nat.reduceEqDiff, reduceIte, reduceCtorEq, Nat.reduceLeDiff, Nat.reduceSub, List.reduceReplicate, Nat.reduceMul, Int.reduceToNat, Int.toNat_natCast, Nat.reducePow, reduceIte]
   refine hat 216 cl24 c24 (.cons (lendV ho rfl) (.cons (.v _) .nil)) ?_
   rintro _ _ ⟨rfl, rfl⟩
   with_reducible refine hstop ?_; simp (maxSteps := 2000000) (disch := omega) only [push_cast, ↓Int.cast_ofNat_Int, Nat.reduceBEq, Nat.reduceAdd, Nat.reduceLT, Nat.reduceEqDiff, reduceIte, reduceCtorEq, Nat.reduceLeDiff, Nat.reduceSub, List.reduceReplicate, Nat.reduceMul, Int.reduceToNat, Int.toNat_natCast, Nat.reducePow, reduceIte]
   refine hat 240 cl24 c24 (.cons (lendV ho rfl) (.cons (.v _) .nil)) ?_
   rintro _ _ ⟨rfl, rfl⟩
   with_reducible refine hstop ?_; simp (maxSteps := 2000000) (disch := omega) only [push_cast, ↓Int.cast_ofNat_Int, Nat.reduceBEq, Nat.reduceAdd, Nat.reduceLT, Nat.reduceEqDiff, reduceIte, reduceCtorEq, Nat.reduceLeDiff, Nat.reduceSub, List.reduceReplicate, Nat.reduceMul, Int.reduceToNat, Int.toNat_natCast, Nat.reducePow, reduceIte]
   refine hK _ ?_; clear hK K
   (repeat first | refine zK ?_ | refine zG ?_ | refine zH ?_ | refine zF rfl ?_ | refine zL ?_ | refine zB ?_ | refine zA ?_ | refine zC ?_ | refine zT ?_ | refine zW ?_)
   refine yB [0, 1, 2, 7, 8, 9] [192, 216, 240] (by simp only [zZ, zR, zP, zQ, zN, zS, zM, zX, zU, Nat.reduceEqDiff, reduceIte]; exact rfl) ?_
   refine HW_name 192 1000000 (by decide) rfl rfl (by simp only [name_eq, nm_eq, eren_nil, eren_cons, sren_nil, sren_cons, hren_v, hren_lst, hren_own, hren_ptr, hren_vw, hren_agg, hren_tup, hren_junk, rren_sl, rren_bx, rren_hl, Nat.reduceMul, Nat.reduceAdd, Nat.reduceEqDiff, reduceIte, List.map_cons, List.map_nil]; exact rfl) ?_
   refine HW_name 216 1000001 (by decide) rfl rfl (by simp only [name_eq, nm_eq, eren_nil, eren_cons, sren_nil, sren_cons, hren_v, hren_lst, hren_own, hren_ptr, hren_vw, hren_agg, hren_tup, hren_junk, rren_sl, rren_bx, rren_hl, Nat.reduceMul, Nat.reduceAdd, Nat.reduceEqDiff, reduceIte, List.map_cons, List.map_nil]; exact rfl) ?_
   refine HW_name 240 1000002 (by decide) rfl rfl (by simp only [name_eq, nm_eq, eren_nil, eren_cons, sren_nil, sren_cons, hren_v, hren_lst, hren_own, hren_ptr, hren_vw, hren_agg, hren_tup, hren_junk, rren_sl, rren_bx, rren_hl, Nat.reduceMul, Nat.reduceAdd, Nat.reduceEqDiff, reduceIte, List.map_cons, List.map_nil]; exact rfl) ?_
   (repeat first | refine zE ?_ | refine zA ?_ | refine zC ?_ | refine zB ?_ | refine zD ?_); refine zJ (fun K hK => ?_); simp (maxSteps := 2000000) (disch := omega) only [push_cast, ↓Int.cast_ofNat_Int, Nat.reduceBEq, Nat.reduceAdd, Nat.reduceLT, Nat.reduceEqDiff, reduceIte, reduceCtorEq, Nat.reduceLeDiff, Nat.reduceSub, List.reduceReplicate, Nat.reduceMul, Int.reduceToNat, Int.toNat_natCast, Nat.reducePow, reduceIte]
   refine hat 264 cl25 c25 (.cons (lendV ho rfl) (.cons (.v _) .nil)) ?_
   rintro _ _ ⟨rfl, rfl⟩
   with_reducible refine hstop ?_; simp (maxSteps := 2000000) (disch := omega) only [push_cast, ↓Int.cast_ofNat_Int, Nat.reduceBEq, Nat.reduceAdd, Nat.reduceLT, Nat.reduceEqDiff, reduceIte, reduceCtorEq, Nat.reduceLeDiff, Nat.reduceSub, List.reduceReplicate, Nat.reduceMul, Int.reduceToNat, Int.toNat_natCast, Nat.reducePow, reduceIte]
   refine hat 288 cl26 c26 (.cons (lendL (yT _)) (.cons (.v _) .nil)) ?_
   rintro _ _ ⟨rfl, rfl⟩
   with_reducible refine hstop ?_; simp (maxSteps := 2000000) (disch := omega) only [push_cast, ↓Int.cast_ofNat_Int, Nat.reduceBEq, Nat.reduceAdd, Nat.reduceLT, Nat.reduceEqDiff, reduceIte, reduceCtorEq, Nat.reduceLeDiff, Nat.reduceSub, List.reduceReplicate, Nat.reduceMul, Int.reduceToNat, Int.toNat_natCast, Nat.reducePow, reduceIte]
   refine ⟨_, eqN _ _ _ _, ?_⟩
   with_reducible refine hstop ?_; simp (maxSteps := 2000000) (disch := omega) only [push_cast, ↓Int.cast_ofNat_Int, Nat.reduceBEq, Nat.reduceAdd, Nat.reduceLT, Nat.reduceEqDiff, reduceIte, reduceCtorEq, Nat.reduceLeDiff, Nat.reduceSub, List.reduceReplicate, Nat.reduceMul, Int.reduceToNat, Int.toNat_natCast, Nat.reducePow, reduceIte]
   refine hat 336 cl27 c27 (.cons (lendL (yT _)) (.cons (.v _) .nil)) ?_
   rintro _ _ ⟨rfl, rfl⟩
   with_reducible refine hstop ?_; simp (maxSteps := 2000000) (disch := omega) only [push_cast, ↓Int.cast_ofNat_Int, Nat.reduceBEq, Nat.reduceAdd, Nat.reduceLT, Nat.reduceEqDiff, reduceIte, reduceCtorEq, Nat.reduceLeDiff, Nat.reduceSub, List.reduceReplicate, Nat.reduceMul, Int.reduceToNat, Int.toNat_natCast, Nat.reducePow, reduceIte]
   refine hatv cl22 c22F (.cons (lendO (yT _) rfl) (.cons (lendO (yT _) rfl) .nil)) ?_
   with_reducible refine hstop ?_; simp (maxSteps := 2000000) (disch := omega) only [push_cast, ↓Int.cast_ofNat_Int, Nat.reduceBEq, Nat.reduceAdd, Nat.reduceLT, Nat.reduceEqDiff, reduceIte, reduceCtorEq, Nat.reduceLeDiff, Nat.reduceSub, List.reduceReplicate, Nat.reduceMul, Int.reduceToNat, Int.toNat_natCast, Nat.reducePow, reduceIte]
   refine hatv cl22 c22F (.cons (lendO (yT _) rfl) (.cons (lendO (yT _) rfl) .nil)) ?_
   with_reducible refine hstop ?_; simp (maxSteps := 2000000) (disch := omega) only [push_cast, ↓Int.cast_ofNat_Int, Nat.reduceBEq, Nat.reduceAdd, Nat.reduceLT, Nat.reduceEqDiff, reduceIte, reduceCtorEq, Nat.reduceLeDiff, Nat.reduceSub, List.reduceReplicate, Nat.reduceMul, Int.reduceToNat, Int.toNat_natCast, Nat.reducePow, reduceIte]
   refine hatv cl28 c28 (.cons (lendV ho rfl) .nil) ?_
   with_reducible refine hstop ?_; simp (maxSteps := 2000000) (disch := omega) only [push_cast, ↓Int.cast_ofNat_Int, Nat.reduceBEq, Nat.reduceAdd, Nat.reduceLT, Nat.reduceEqDiff, reduceIte, reduceCtorEq, Nat.reduceLeDiff, Nat.reduceSub, List.reduceReplicate, Nat.reduceMul, Int.reduceToNat, Int.toNat_natCast, Nat.reducePow, reduceIte]
   refine hatv cl29 c29 (.cons (lendL (yT _)) .nil) ?_
   with_reducible refine hstop ?_; simp (maxSteps := 2000000) (disch := omega) only [push_cast, ↓Int.cast_ofNat_Int, Nat.reduceBEq, Nat.reduceAdd, Nat.reduceLT, Nat.reduceEqDiff, reduceIte, reduceCtorEq, Nat.reduceLeDiff, Nat.reduceSub, List.reduceReplicate, Nat.reduceMul, Int.reduceToNat, Int.toNat_natCast, Nat.reducePow, reduceIte]
   refine hatv cl30 c30 (.cons (lendV ho rfl) (.cons (lendL (yT _)) .nil)) ?_
   with_reducible refine hstop ?_; simp (maxSteps := 2000000) (disch := omega) only [push_cast, ↓Int.cast_ofNat_Int, Nat.reduceBEq, Nat.reduceAdd, Nat.reduceLT, Nat.reduceEqDiff, reduceIte, reduceCtorEq, Nat.reduceLeDiff, Nat.reduceSub, List.reduceReplicate, Nat.reduceMul, Int.reduceToNat, Int.toNat_natCast, Nat.reducePow, reduceIte]
   refine hatv cl22 c22ab (.cons (lendL (yT _)) (.cons (lendL (yT _)) .nil)) ?_
   with_reducible refine hstop ?_; simp (maxSteps := 2000000) (disch := omega) only [push_cast, ↓Int.cast_ofNat_Int, Nat.reduceBEq, Nat.reduceAdd, Nat.reduceLT, Nat.reduceEqDiff, reduceIte, reduceCtorEq, Nat.reduceLeDiff, Nat.reduceSub, List.reduceReplicate, Nat.reduceMul, Int.reduceToNat, Int.toNat_natCast, Nat.reducePow, reduceIte]
   refine hat 568 cl32 c32 (.cons (lendV ho rfl) (.cons (lendL (yT _)) .nil)) ?_
   rintro _ _ ⟨rfl, rfl⟩
   with_reducible refine hstop ?_; simp (maxSteps := 2000000) (disch := omega) only [push_cast, ↓Int.cast_ofNat_Int, Nat.reduceBEq, Nat.reduceAdd, Nat.reduceLT, Nat.reduceEqDiff, reduceIte, reduceCtorEq, Nat.reduceLeDiff, Nat.reduceSub, List.reduceReplicate, Nat.reduceMul, Int.reduceToNat, Int.toNat_natCast, Nat.reducePow, reduceIte]
   refine hat 592 cl33 c33 (.cons (lendL (yT _)) (.cons (lendL (yT _)) .nil)) ?_
   rintro _ _ ⟨rfl, rfl⟩
   with_reducible refine hstop ?_; simp (maxSteps := 2000000) (disch := omega) only [push_cast, ↓Int.cast_ofNat_Int, Nat.reduceBEq, Nat.reduceAdd, Nat.reduceLT, Nat.reduceEqDiff, reduceIte, reduceCtorEq, Nat.reduceLeDiff, Nat.reduceSub, List.reduceReplicate, Nat.reduceMul, Int.reduceToNat, Int.toNat_natCast, Nat.reducePow, reduceIte]
   refine hatv cl31 c31 (.cons (lendO (strs_old _) rfl) (.cons (lendO (strs_old _) rfl) .nil)) ?_
   with_reducible refine hstop ?_; simp (maxSteps := 2000000) (disch := omega) only [push_cast, ↓Int.cast_ofNat_Int, Nat.reduceBEq, Nat.reduceAdd, Nat.reduceLT, Nat.reduceEqDiff, reduceIte, reduceCtorEq, Nat.reduceLeDiff, Nat.reduceSub, List.reduceReplicate, Nat.reduceMul, Int.reduceToNat, Int.toNat_natCast, Nat.reducePow, reduceIte]
   refine hK _ ?_; clear hK K
   refine yC rfl ?_
   (repeat first | refine zK ?_ | refine zG ?_ | refine zH ?_ | refine zF rfl ?_ | refine zL ?_ | refine zB ?_ | refine zA ?_ | refine zC ?_ | refine zT ?_ | refine zW ?_)
   refine yB [0, 7, 8, 9] [1000000, 1000001, 1000002] (by simp only [zZ, zR, zP, zQ, zN, zS, zM, zX, zU, Nat.reduceEqDiff, reduceIte]; exact rfl) ?_
   have hlt : a.length < (ents (a ++ [spare])).length := by rw [yV, List.length_append]; simp
   (repeat first | refine zE ?_ | refine zA ?_ | refine zC ?_ | refine zB ?_ | refine zD ?_); refine HW_regS (fun K hK => ?_)
   refine HV2s_cut 7 [81, 82, 83, 84, 85, 86, 87] [1000000, 1000001, 1000002] ?_; simp (maxSteps := 2000000) (disch := omega) only [push_cast, ↓Int.cast_ofNat_Int, Nat.reduceBEq, Nat.reduceAdd, Nat.reduceLT, Nat.reduceEqDiff, reduceIte, reduceCtorEq, Nat.reduceLeDiff, Nat.reduceSub, List.reduceReplicate, Nat.reduceMul, Int.reduceToNat, Int.toNat_natCast, Nat.reducePow, reduceIte]
   refine held_at hla rfl (lendL (yT _)) ?_
   with_reducible refine hstop ?_; simp (maxSteps := 2000000) (disch := omega) only [push_cast, ↓Int.cast_ofNat_Int, Nat.reduceBEq, Nat.reduceAdd, Nat.reduceLT, Nat.reduceEqDiff, reduceIte, reduceCtorEq, Nat.reduceLeDiff, Nat.reduceSub, List.reduceReplicate, Nat.reduceMul, Int.reduceToNat, Int.toNat_natCast, Nat.reducePow, reduceIte]
   refine hstop ?_; simp only [zZ, zR, zP, zQ, zN, zS, zM, zX, zU, Nat.reduceEqDiff, reduceIte, List.drop_succ_cons, List.drop_zero]
   refine HV2s_trim 1000000 (a.length) rfl (by exact hlt) (by simp only [trim_eq, etrim_nil, etrim_cons, strim_nil, strim_cons, htrim_v, htrim_lst, htrim_own, htrim_ptr, htrim_vw, htrim_agg, htrim_tup, htrim_junk, rtrim_sl, rtrim_bx, rtrim_hl, Nat.sub_zero, true_and, eq_self, and_self, Nat.reduceMul, Nat.reduceAdd, Nat.reduceEqDiff, reduceIte, List.map_cons, List.map_nil, spare_take]; exact rfl) ?_
   refine HV2s_end ?_; simp (maxSteps := 2000000) (disch := omega) only [push_cast, ↓Int.cast_ofNat_Int, Nat.reduceBEq, Nat.reduceAdd, Nat.reduceLT, Nat.reduceEqDiff, reduceIte, reduceCtorEq, Nat.reduceLeDiff, Nat.reduceSub, List.reduceReplicate, Nat.reduceMul, Int.reduceToNat, Int.toNat_natCast, Nat.reducePow, reduceIte]
   refine hatS 688 [680, 1000001, 1000002, 1000000] cl23 (apart43_H F F a true true true true (by omega) (by omega) (by omega)) rfl (by decide) (by decide) (by simp only [push_cast, pos_nil, yF, Option.getD_some, Bool.or_true, Bool.or_false, Bool.and_true, Bool.and_false, Option.map_some, Option.map_none, Nat.zero_add, Nat.reduceBEq, Nat.reduceAdd, Nat.reduceLT, Nat.reduceEqDiff, reduceIte, reduceCtorEq, Nat.reduceLeDiff, Nat.reduceSub, List.reduceReplicate, Nat.reduceMul, Int.reduceToNat, Int.toNat_natCast, Nat.reducePow, reduceIte]; try rfl) (by simp only [push_cast, pos_nil, yF, Option.getD_some, Bool.or_true, Bool.or_false, Bool.and_true, Bool.and_false, Option.map_some, Option.map_none, Nat.zero_add, Nat.reduceBEq, Nat.reduceAdd, Nat.reduceLT, Nat.reduceEqDiff, reduceIte, reduceCtorEq, Nat.reduceLeDiff, Nat.reduceSub, List.reduceReplicate, Nat.reduceMul, Int.reduceToNat, Int.toNat_natCast, Nat.reducePow, reduceIte]; try rfl) ?_
   rintro _ _ ⟨rfl, rfl⟩
   refine hstop ?_; simp (maxSteps := 2000000) (disch := omega) only [push_cast, ↓Int.cast_ofNat_Int, Nat.reduceBEq, Nat.reduceAdd, Nat.reduceLT, Nat.reduceEqDiff, reduceIte, reduceCtorEq, Nat.reduceLeDiff, Nat.reduceSub, List.reduceReplicate, Nat.reduceMul, Int.reduceToNat, Int.toNat_natCast, Nat.reducePow, reduceIte, Option.getD_some, Bool.or_true, Bool.or_false, Bool.and_true, Bool.and_false, Nat.zero_add, pos_nil, yF, Option.map_some, Option.map_none]
   refine hK _ ?_; clear hK K
   (repeat first | refine zK ?_ | refine zG ?_ | refine zH ?_ | refine zF rfl ?_ | refine zL ?_ | refine zB ?_ | refine zE ?_ | refine zA ?_ | refine zC ?_ | refine zT ?_ | refine zW ?_)
   simp only [yA, yM, yH, yE, resH_cell, resC_go, yK, yJ, zS, zM, Nat.reduceEqDiff, reduceIte, reduceCtorEq]
   exact hres_v rfl
  ·rcases (checkS_zero b).resolve_left hb with h | h
   ·rw [h] at cb
    (repeat first | refine zE ?_ | refine zA ?_ | refine zC ?_ | refine zB ?_ | refine zD ?_); refine zJ (fun K hK => ?_); simp (maxSteps := 2000000) (disch := omega) only [push_cast, ↓Int.cast_ofNat_Int, Nat.reduceBEq, Nat.reduceAdd, Nat.reduceLT, Nat.reduceEqDiff, reduceIte, reduceCtorEq, Nat.reduceLeDiff, Nat.reduceSub, List.reduceReplicate, Nat.reduceMul, Int.reduceToNat, Int.toNat_natCast, Nat.reducePow, reduceIte]
    refine hatv cl14 tawake_H .nil ?_
    with_reducible refine hstop ?_; simp (maxSteps := 2000000) (disch := omega) only [push_cast, ↓Int.cast_ofNat_Int, Nat.reduceBEq, Nat.reduceAdd, Nat.reduceLT, Nat.reduceEqDiff, reduceIte, reduceCtorEq, Nat.reduceLeDiff, Nat.reduceSub, List.reduceReplicate, Nat.reduceMul, Int.reduceToNat, Int.toNat_natCast, Nat.reducePow, reduceIte]
    refine hatv cl16 ca (.cons (lendL (yT _)) .nil) ?_
    with_reducible refine hstop ?_; simp (maxSteps := 2000000) (disch := omega) only [push_cast, ↓Int.cast_ofNat_Int, Nat.reduceBEq, Nat.reduceAdd, Nat.reduceLT, Nat.reduceEqDiff, reduceIte, reduceCtorEq, Nat.reduceLeDiff, Nat.reduceSub, List.reduceReplicate, Nat.reduceMul, Int.reduceToNat, Int.toNat_natCast, Nat.reducePow, reduceIte]
    refine hatv cl16 cb (.cons (lendL (yT _)) .nil) ?_
    with_reducible refine hstop ?_; simp (maxSteps := 2000000) (disch := omega) only [push_cast, ↓Int.cast_ofNat_Int, Nat.reduceBEq, Nat.reduceAdd, Nat.reduceLT, Nat.reduceEqDiff, reduceIte, reduceCtorEq, Nat.reduceLeDiff, Nat.reduceSub, List.reduceReplicate, Nat.reduceMul, Int.reduceToNat, Int.toNat_natCast, Nat.reducePow, reduceIte]
    refine hK _ ?_; clear hK K
    refine yD rfl ?_
    (repeat first | refine zE ?_ | refine zA ?_ | refine zC ?_ | refine zB ?_ | refine zD ?_); refine zJ (fun K hK => ?_); simp (maxSteps := 2000000) (disch := omega) only [push_cast, ↓Int.cast_ofNat_Int, Nat.reduceBEq, Nat.reduceAdd, Nat.reduceLT, Nat.reduceEqDiff, reduceIte, reduceCtorEq, Nat.reduceLeDiff, Nat.reduceSub, List.reduceReplicate, Nat.reduceMul, Int.reduceToNat, Int.toNat_natCast, Nat.reducePow, reduceIte]
    refine hatv cl14 tawake_H .nil ?_
    with_reducible refine hstop ?_; simp (maxSteps := 2000000) (disch := omega) only [push_cast, ↓Int.cast_ofNat_Int, Nat.reduceBEq, Nat.reduceAdd, Nat.reduceLT, Nat.reduceEqDiff, reduceIte, reduceCtorEq, Nat.reduceLeDiff, Nat.reduceSub, List.reduceReplicate, Nat.reduceMul, Int.reduceToNat, Int.toNat_natCast, Nat.reducePow, reduceIte]
    refine hK _ ?_; clear hK K
    (repeat first | refine zK ?_ | refine zG ?_ | refine zH ?_ | refine zF rfl ?_ | refine zL ?_ | refine zB ?_ | refine zE ?_ | refine zA ?_ | refine zC ?_ | refine zT ?_ | refine zW ?_)
    simp only [yA, yM, yH, yE, resH_cell, resC_go, yK, yJ, zS, zM, Nat.reduceEqDiff, reduceIte, reduceCtorEq]
    exact hres_v rfl
   ·rw [h] at cb
    (repeat first | refine zE ?_ | refine zA ?_ | refine zC ?_ | refine zB ?_ | refine zD ?_); refine zJ (fun K hK => ?_); simp (maxSteps := 2000000) (disch := omega) only [push_cast, ↓Int.cast_ofNat_Int, Nat.reduceBEq, Nat.reduceAdd, Nat.reduceLT, Nat.reduceEqDiff, reduceIte, reduceCtorEq, Nat.reduceLeDiff, Nat.reduceSub, List.reduceReplicate, Nat.reduceMul, Int.reduceToNat, Int.toNat_natCast, Nat.reducePow, reduceIte]
    refine hatv cl14 tawake_H .nil ?_
    with_reducible refine hstop ?_; simp (maxSteps := 2000000) (disch := omega) only [push_cast, ↓Int.cast_ofNat_Int, Nat.reduceBEq, Nat.reduceAdd, Nat.reduceLT, Nat.reduceEqDiff, reduceIte, reduceCtorEq, Nat.reduceLeDiff, Nat.reduceSub, List.reduceReplicate, Nat.reduceMul, Int.reduceToNat, Int.toNat_natCast, Nat.reducePow, reduceIte]
    refine hatv cl16 ca (.cons (lendL (yT _)) .nil) ?_
    with_reducible refine hstop ?_; simp (maxSteps := 2000000) (disch := omega) only [push_cast, ↓Int.cast_ofNat_Int, Nat.reduceBEq, Nat.reduceAdd, Nat.reduceLT, Nat.reduceEqDiff, reduceIte, reduceCtorEq, Nat.reduceLeDiff, Nat.reduceSub, List.reduceReplicate, Nat.reduceMul, Int.reduceToNat, Int.toNat_natCast, Nat.reducePow, reduceIte]
    refine hatv cl16 cb (.cons (lendL (yT _)) .nil) ?_
    with_reducible refine hstop ?_; simp (maxSteps := 2000000) (disch := omega) only [push_cast, ↓Int.cast_ofNat_Int, Nat.reduceBEq, Nat.reduceAdd, Nat.reduceLT, Nat.reduceEqDiff, reduceIte, reduceCtorEq, Nat.reduceLeDiff, Nat.reduceSub, List.reduceReplicate, Nat.reduceMul, Int.reduceToNat, Int.toNat_natCast, Nat.reducePow, reduceIte]
    refine hK _ ?_; clear hK K
    refine yD rfl ?_
    (repeat first | refine zE ?_ | refine zA ?_ | refine zC ?_ | refine zB ?_ | refine zD ?_); refine zJ (fun K hK => ?_); simp (maxSteps := 2000000) (disch := omega) only [push_cast, ↓Int.cast_ofNat_Int, Nat.reduceBEq, Nat.reduceAdd, Nat.reduceLT, Nat.reduceEqDiff, reduceIte, reduceCtorEq, Nat.reduceLeDiff, Nat.reduceSub, List.reduceReplicate, Nat.reduceMul, Int.reduceToNat, Int.toNat_natCast, Nat.reducePow, reduceIte]
    refine hatv cl14 tawake_H .nil ?_
    with_reducible refine hstop ?_; simp (maxSteps := 2000000) (disch := omega) only [push_cast, ↓Int.cast_ofNat_Int, Nat.reduceBEq, Nat.reduceAdd, Nat.reduceLT, Nat.reduceEqDiff, reduceIte, reduceCtorEq, Nat.reduceLeDiff, Nat.reduceSub, List.reduceReplicate, Nat.reduceMul, Int.reduceToNat, Int.toNat_natCast, Nat.reducePow, reduceIte]
    refine hK _ ?_; clear hK K
    (repeat first | refine zK ?_ | refine zG ?_ | refine zH ?_ | refine zF rfl ?_ | refine zL ?_ | refine zB ?_ | refine zE ?_ | refine zA ?_ | refine zC ?_ | refine zT ?_ | refine zW ?_)
    simp only [yA, yM, yH, yE, resH_cell, resC_go, yK, yJ, zS, zM, Nat.reduceEqDiff, reduceIte, reduceCtorEq]
    exact hres_v rfl
 ·rcases (checkS_zero a).resolve_left ha with h | h
  ·rw [h] at ca
   (repeat first | refine zE ?_ | refine zA ?_ | refine zC ?_ | refine zB ?_ | refine zD ?_); refine zJ (fun K hK => ?_); simp (maxSteps := 2000000) (disch := omega) only [push_cast, ↓Int.cast_ofNat_Int, Nat.reduceBEq, Nat.reduceAdd, Nat.reduceLT, Nat.reduceEqDiff, reduceIte, reduceCtorEq, Nat.reduceLeDiff, Nat.reduceSub, List.reduceReplicate, Nat.reduceMul, Int.reduceToNat, Int.toNat_natCast, Nat.reducePow, reduceIte]
   refine hatv cl14 tawake_H .nil ?_
   with_reducible refine hstop ?_; simp (maxSteps := 2000000) (disch := omega) only [push_cast, ↓Int.cast_ofNat_Int, Nat.reduceBEq, Nat.reduceAdd, Nat.reduceLT, Nat.reduceEqDiff, reduceIte, reduceCtorEq, Nat.reduceLeDiff, Nat.reduceSub, List.reduceReplicate, Nat.reduceMul, Int.reduceToNat, Int.toNat_natCast, Nat.reducePow, reduceIte]
   refine hatv cl16 ca (.cons (lendL (yT _)) .nil) ?_
   with_reducible refine hstop ?_; simp (maxSteps := 2000000) (disch := omega) only [push_cast, ↓Int.cast_ofNat_Int, Nat.reduceBEq, Nat.reduceAdd, Nat.reduceLT, Nat.reduceEqDiff, reduceIte, reduceCtorEq, Nat.reduceLeDiff, Nat.reduceSub, List.reduceReplicate, Nat.reduceMul, Int.reduceToNat, Int.toNat_natCast, Nat.reducePow, reduceIte]
   refine hK _ ?_; clear hK K
   refine yD rfl ?_
   (repeat first | refine zE ?_ | refine zA ?_ | refine zC ?_ | refine zB ?_ | refine zD ?_); refine zJ (fun K hK => ?_); simp (maxSteps := 2000000) (disch := omega) only [push_cast, ↓Int.cast_ofNat_Int, Nat.reduceBEq, Nat.reduceAdd, Nat.reduceLT, Nat.reduceEqDiff, reduceIte, reduceCtorEq, Nat.reduceLeDiff, Nat.reduceSub, List.reduceReplicate, Nat.reduceMul, Int.reduceToNat, Int.toNat_natCast, Nat.reducePow, reduceIte]
   refine hatv cl14 tawake_H .nil ?_
   with_reducible refine hstop ?_; simp (maxSteps := 2000000) (disch := omega) only [push_cast, ↓Int.cast_ofNat_Int, Nat.reduceBEq, Nat.reduceAdd, Nat.reduceLT, Nat.reduceEqDiff, reduceIte, reduceCtorEq, Nat.reduceLeDiff, Nat.reduceSub, List.reduceReplicate, Nat.reduceMul, Int.reduceToNat, Int.toNat_natCast, Nat.reducePow, reduceIte]
   refine hK _ ?_; clear hK K
   (repeat first | refine zK ?_ | refine zG ?_ | refine zH ?_ | refine zF rfl ?_ | refine zL ?_ | refine zB ?_ | refine zE ?_ | refine zA ?_ | refine zC ?_ | refine zT ?_ | refine zW ?_)
   simp only [yA, yM, yH, yE, resH_cell, resC_go, yK, yJ, zS, zM, Nat.reduceEqDiff, reduceIte, reduceCtorEq]
   exact hres_v rfl
  ·rw [h] at ca
   (repeat first | refine zE ?_ | refine zA ?_ | refine zC ?_ | refine zB ?_ | refine zD ?_); refine zJ (fun K hK => ?_); simp (maxSteps := 2000000) (disch := omega) only [push_cast, ↓Int.cast_ofNat_Int, Nat.reduceBEq, Nat.reduceAdd, Nat.reduceLT, Nat.reduceEqDiff, reduceIte, reduceCtorEq, Nat.reduceLeDiff, Nat.reduceSub, List.reduceReplicate, Nat.reduceMul, Int.reduceToNat, Int.toNat_natCast, Nat.reducePow, reduceIte]
   refine hatv cl14 tawake_H .nil ?_
   with_reducible refine hstop ?_; simp (maxSteps := 2000000) (disch := omega) only [push_cast, ↓Int.cast_ofNat_Int, Nat.reduceBEq, Nat.reduceAdd, Nat.reduceLT, Nat.reduceEqDiff, reduceIte, reduceCtorEq, Nat.reduceLeDiff, Nat.reduceSub, List.reduceReplicate, Nat.reduceMul, Int.reduceToNat, Int.toNat_natCast, Nat.reducePow, reduceIte]
   refine hatv cl16 ca (.cons (lendL (yT _)) .nil) ?_
   with_reducible refine hstop ?_; simp (maxSteps := 2000000) (disch := omega) only [push_cast, ↓Int.cast_ofNat_Int, Nat.reduceBEq, Nat.reduceAdd, Nat.reduceLT, Nat.reduceEqDiff, reduceIte, reduceCtorEq, Nat.reduceLeDiff, Nat.reduceSub, List.reduceReplicate, Nat.reduceMul, Int.reduceToNat, Int.toNat_natCast, Nat.reducePow, reduceIte]
   refine hK _ ?_; clear hK K
   refine yD rfl ?_
   (repeat first | refine zE ?_ | refine zA ?_ | refine zC ?_ | refine zB ?_ | refine zD ?_); refine zJ (fun K hK => ?_); simp (maxSteps := 2000000) (disch := omega) only [push_cast, ↓Int.cast_ofNat_Int, Nat.reduceBEq, Nat.reduceAdd, Nat.reduceLT, Nat.reduceEqDiff, reduceIte, reduceCtorEq, Nat.reduceLeDiff, Nat.reduceSub, List.reduceReplicate, Nat.reduceMul, Int.reduceToNat, Int.toNat_natCast, Nat.reducePow, reduceIte]
   refine hatv cl14 tawake_H .nil ?_
   with_reducible refine hstop ?_; simp (maxSteps := 2000000) (disch := omega) only [push_cast, ↓Int.cast_ofNat_Int, Nat.reduceBEq, Nat.reduceAdd, Nat.reduceLT, Nat.reduceEqDiff, reduceIte, reduceCtorEq, Nat.reduceLeDiff, Nat.reduceSub, List.reduceReplicate, Nat.reduceMul, Int.reduceToNat, Int.toNat_natCast, Nat.reducePow, reduceIte]
   refine hK _ ?_; clear hK K
   (repeat first | refine zK ?_ | refine zG ?_ | refine zH ?_ | refine zF rfl ?_ | refine zL ?_ | refine zB ?_ | refine zE ?_ | refine zA ?_ | refine zC ?_ | refine zT ?_ | refine zW ?_)
   simp only [yA, yM, yH, yE, resH_cell, resC_go, yK, yJ, zS, zM, Nat.reduceEqDiff, reduceIte, reduceCtorEq]
   exact hres_v rfl
theorem treeGets_U (a b : List Ent) (p : ByteArray) (hu : fw (.lst false (ents a)) + (fw (.lst false (ents b)) + (fw (.v (.string p)) + 0)) ≤ 1048576) : HFun Tryd.prog 5 [.lst false (ents a), .lst false (ents b), .v (.string p)] (fun h st => h = .v (.bool true)) := by
 obtain ⟨h1, h2⟩ := fw_ents a
 obtain ⟨h3, h4⟩ := fw_ents b
 rw [fw_str] at hu
 exact treeGets_H a b p (by omega) (by omega) (fun e he => by have := h2 e he; omega) (fun e he => by have := (h4 e he).1; omega) (by omega)
end Go.Proofs.YtkonlklieacjoaaDoor
