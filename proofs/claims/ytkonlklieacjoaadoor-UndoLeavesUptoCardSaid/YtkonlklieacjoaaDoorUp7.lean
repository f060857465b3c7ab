/-
  The law UndoLeaves.
-/
import Derived.Test.YtkonlklieacjoaaDoorUlv
import Derived.Test.YtkonlklieacjoaaDoorUaw
import Derived.Test.YtkonlklieacjoaaDoorBir
import Derived.Test.YtkonlklieacjoaaDoorUp2
set_option linter.unusedSimpArgs false
set_option linter.unusedVariables false
set_option maxRecDepth 20000
namespace Go.Tr
open Go Go.Eng
abbrev triT (T : Tri) : List HV := [.lst true (ents T.1), .lst true (ents T.2.1), .lst true (ents T.2.2)]
theorem triT_getD (T : Tri) {i : Nat} (h : i < 3) : (triT T).getD i .junk = .lst true (ents (tr T i)) := by
 rcases three h with rfl | rfl | rfl <;> rfl
def hasT (l : List ByteArray) (p : ByteArray) : Bool := l.any fun x => decide (x = p)
theorem hasT_iff {l : List ByteArray} {p : ByteArray} : hasT l p = true ↔ p ∈ l := by
 unfold hasT
 rw [List.any_eq_true]
 constructor
 ·rintro ⟨x, hx, h⟩; rw [← of_decide_eq_true h]; exact hx
 ·intro h; exact ⟨p, h, decide_eq_true rfl⟩
theorem hasT_no {l : List ByteArray} {p : ByteArray} (h : p ∉ l) : hasT l p = false := by
 cases e : hasT l p with
 | false => rfl
 | true => exact absurd (hasT_iff.1 e) h
theorem take_mem {l : List ByteArray} {i : Nat} (h : i < l.length) (p : ByteArray) : hasT (l.take (i + 1)) p = (hasT (l.take i) p || decide (l[i] = p)) := by
 unfold hasT
 rw [List.take_succ_eq_append_getElem h, List.any_append]
 simp
end Go.Tr
namespace Go.Proofs.YtkonlklieacjoaaDoor
open Go Go.Eng Go.RowKit Go.Tr
set_option maxHeartbeats 32000000 in
theorem undoLeaves_H (A B S : Tri) (p : ByteArray) (bA : Big A) (bB : Big B) (bS : Big S) : HFun Tryd.prog 11 [triH A, triH B, triH S, .v (.string p)] (fun h st => h = .v (.bool true)) := by
 refine hfun (N := 162) Tryd.func11 rfl Tryd.ntmps11 Tryd.results11 (by simp) ?_
 have cA := all3_H A bA.len bA.size
 have cB := all3_H B bB.len bB.size
 have cS := all3_H S bS.len bS.size
 (repeat first | refine zE ?_ | refine zA ?_ | refine zC ?_ | refine zB ?_ | refine zD ?_); refine zJ (fun K hK => ?_); simp (maxSteps := 2000000) (disch := omega) only [push_cast, ↓Int.cast_ofNat_Int, simprocAttr, Int.toNat_natCast]; refine hK _ ?_; clear hK K
 cases hA : all3 A with
 | false =>
  rw [hA] at cA
  (repeat first | refine zE ?_ | refine zA ?_ | refine zC ?_ | refine zB ?_ | refine zD ?_); refine zJ (fun K hK => ?_); simp (maxSteps := 2000000) (disch := omega) only [push_cast, ↓Int.cast_ofNat_Int, simprocAttr, Int.toNat_natCast]
  refine hatv cl39 uawake_H .nil ?_
  with_reducible refine hstop ?_; simp (maxSteps := 2000000) (disch := omega) only [push_cast, ↓Int.cast_ofNat_Int, simprocAttr, Int.toNat_natCast]
  refine hatv cl40 cA (.cons (lend_tri (lendL (yT _)) (lendL (yT _)) (lendL (yT _))) .nil) ?_
  with_reducible refine hstop ?_; simp (maxSteps := 2000000) (disch := omega) only [push_cast, ↓Int.cast_ofNat_Int, simprocAttr, Int.toNat_natCast]
  refine hK _ ?_; clear hK K
  refine yD rfl ?_
  (repeat first | refine zE ?_ | refine zA ?_ | refine zC ?_ | refine zB ?_ | refine zD ?_); refine zJ (fun K hK => ?_); simp (maxSteps := 2000000) (disch := omega) only [push_cast, ↓Int.cast_ofNat_Int, simprocAttr, Int.toNat_natCast]
  refine hatv cl39 uawake_H .nil ?_
  with_reducible refine hstop ?_; simp (maxSteps := 2000000) (disch := omega) only [push_cast, ↓Int.cast_ofNat_Int, simprocAttr, Int.toNat_natCast]
  refine hK _ ?_; clear hK K
  (repeat first | refine zK ?_ | refine zG ?_ | refine zH ?_ | refine zF rfl ?_ | refine zL ?_ | refine zB ?_ | refine zE ?_ | refine zA ?_ | refine zC ?_ | refine zT ?_ | refine zW ?_)
  simp only [yA, yM, yH, yE, resH_cell, resC_go, yK, yJ, zS, zM, Nat.reduceEqDiff, reduceIte, reduceCtorEq]
  exact hres_v rfl
 | true =>
 rw [hA] at cA
 cases hB : all3 B with
 | false =>
  rw [hB] at cB
  (repeat first | refine zE ?_ | refine zA ?_ | refine zC ?_ | refine zB ?_ | refine zD ?_); refine zJ (fun K hK => ?_); simp (maxSteps := 2000000) (disch := omega) only [push_cast, ↓Int.cast_ofNat_Int, simprocAttr, Int.toNat_natCast]
  refine hatv cl39 uawake_H .nil ?_
  with_reducible refine hstop ?_; simp (maxSteps := 2000000) (disch := omega) only [push_cast, ↓Int.cast_ofNat_Int, simprocAttr, Int.toNat_natCast]
  refine hatv cl40 cA (.cons (lend_tri (lendL (yT _)) (lendL (yT _)) (lendL (yT _))) .nil) ?_
  with_reducible refine hstop ?_; simp (maxSteps := 2000000) (disch := omega) only [push_cast, ↓Int.cast_ofNat_Int, simprocAttr, Int.toNat_natCast]
  refine hatv cl40 cB (.cons (lend_tri (lendL (yT _)) (lendL (yT _)) (lendL (yT _))) .nil) ?_
  with_reducible refine hstop ?_; simp (maxSteps := 2000000) (disch := omega) only [push_cast, ↓Int.cast_ofNat_Int, simprocAttr, Int.toNat_natCast]
  refine hK _ ?_; clear hK K
  refine yD rfl ?_
  (repeat first | refine zE ?_ | refine zA ?_ | refine zC ?_ | refine zB ?_ | refine zD ?_); refine zJ (fun K hK => ?_); simp (maxSteps := 2000000) (disch := omega) only [push_cast, ↓Int.cast_ofNat_Int, simprocAttr, Int.toNat_natCast]
  refine hatv cl39 uawake_H .nil ?_
  with_reducible refine hstop ?_; simp (maxSteps := 2000000) (disch := omega) only [push_cast, ↓Int.cast_ofNat_Int, simprocAttr, Int.toNat_natCast]
  refine hK _ ?_; clear hK K
  (repeat first | refine zK ?_ | refine zG ?_ | refine zH ?_ | refine zF rfl ?_ | refine zL ?_ | refine zB ?_ | refine zE ?_ | refine zA ?_ | refine zC ?_ | refine zT ?_ | refine zW ?_)
  simp only [yA, yM, yH, yE, resH_cell, resC_go, yK, yJ, zS, zM, Nat.reduceEqDiff, reduceIte, reduceCtorEq]
  exact hres_v rfl
 | true =>
 rw [hB] at cB
 cases hS : all3 S with
 | false =>
  rw [hS] at cS
  (repeat first | refine zE ?_ | refine zA ?_ | refine zC ?_ | refine zB ?_ | refine zD ?_); refine zJ (fun K hK => ?_); simp (maxSteps := 2000000) (disch := omega) only [push_cast, ↓Int.cast_ofNat_Int, simprocAttr, Int.toNat_natCast]
  refine hatv cl39 uawake_H .nil ?_
  with_reducible refine hstop ?_; simp (maxSteps := 2000000) (disch := omega) only [push_cast, ↓Int.cast_ofNat_Int, simprocAttr, Int.toNat_natCast]
  refine hatv cl40 cA (.cons (lend_tri (lendL (yT _)) (lendL (yT _)) (lendL (yT _))) .nil) ?_
  with_reducible refine hstop ?_; simp (maxSteps := 2000000) (disch := omega) only [push_cast, ↓Int.cast_ofNat_Int, simprocAttr, Int.toNat_natCast]
  refine hatv cl40 cB (.cons (lend_tri (lendL (yT _)) (lendL (yT _)) (lendL (yT _))) .nil) ?_
  with_reducible refine hstop ?_; simp (maxSteps := 2000000) (disch := omega) only [push_cast, ↓Int.cast_ofNat_Int, simprocAttr, Int.toNat_natCast]
  refine hatv cl40 cS (.cons (lend_tri (lendL (yT _)) (lendL (yT _)) (lendL (yT _))) .nil) ?_
  with_reducible refine hstop ?_; simp (maxSteps := 2000000) (disch := omega) only [push_cast, ↓Int.cast_ofNat_Int, simprocAttr, Int.toNat_natCast]
  refine hK _ ?_; clear hK K
  refine yD rfl ?_
  (repeat first | refine zE ?_ | refine zA ?_ | refine zC ?_ | refine zB ?_ | refine zD ?_); refine zJ (fun K hK => ?_); simp (maxSteps := 2000000) (disch := omega) only [push_cast, ↓Int.cast_ofNat_Int, simprocAttr, Int.toNat_natCast]
  refine hatv cl39 uawake_H .nil ?_
  with_reducible refine hstop ?_; simp (maxSteps := 2000000) (disch := omega) only [push_cast, ↓Int.cast_ofNat_Int, simprocAttr, Int.toNat_natCast]
  refine hK _ ?_; clear hK K
  (repeat first | refine zK ?_ | refine zG ?_ | refine zH ?_ | refine zF rfl ?_ | refine zL ?_ | refine zB ?_ | refine zE ?_ | refine zA ?_ | refine zC ?_ | refine zT ?_ | refine zW ?_)
  simp only [yA, yM, yH, yE, resH_cell, resC_go, yK, yJ, zS, zM, Nat.reduceEqDiff, reduceIte, reduceCtorEq]
  exact hres_v rfl
 | true =>
 rw [hS] at cS
 (repeat first | refine zE ?_ | refine zA ?_ | refine zC ?_ | refine zB ?_ | refine zD ?_); refine zJ (fun K hK => ?_); simp (maxSteps := 2000000) (disch := omega) only [push_cast, ↓Int.cast_ofNat_Int, simprocAttr, Int.toNat_natCast]
 refine hatv cl39 uawake_H .nil ?_
 with_reducible refine hstop ?_; simp (maxSteps := 2000000) (disch := omega) only [push_cast, ↓Int.cast_ofNat_Int, simprocAttr, Int.toNat_natCast]
 refine hatv cl40 cA (.cons (lend_tri (lendL (yT _)) (lendL (yT _)) (lendL (yT _))) .nil) ?_
 with_reducible refine hstop ?_; simp (maxSteps := 2000000) (disch := omega) only [push_cast, ↓Int.cast_ofNat_Int, simprocAttr, Int.toNat_natCast]
 refine hatv cl40 cB (.cons (lend_tri (lendL (yT _)) (lendL (yT _)) (lendL (yT _))) .nil) ?_
 with_reducible refine hstop ?_; simp (maxSteps := 2000000) (disch := omega) only [push_cast, ↓Int.cast_ofNat_Int, simprocAttr, Int.toNat_natCast]
 refine hatv cl40 cS (.cons (lend_tri (lendL (yT _)) (lendL (yT _)) (lendL (yT _))) .nil) ?_
 with_reducible refine hstop ?_; simp (maxSteps := 2000000) (disch := omega) only [push_cast, ↓Int.cast_ofNat_Int, simprocAttr, Int.toNat_natCast]
 refine hK _ ?_; clear hK K
 refine yC rfl ?_
 (repeat first | refine zE ?_ | refine zA ?_ | refine zC ?_ | refine zB ?_ | refine zD ?_)
 refine yB [3, 4, 5, 6] [32, 40, 48] (by simp only [zZ, zR, zP, zQ, zN, zS, zM, zX, zU, Nat.reduceEqDiff, reduceIte]; exact rfl) ?_
 have tA := (all3_iff A).1 hA
 have tB := (all3_iff B).1 hB
 have tS := (all3_iff S).1 hS
 have c1 := changes_H 1 A B tA.len tB.len
 have c2 := plan_H 0 0 0 (changesS 1 A B) S tS (by have := chS_len (sp := 1) tA tB; omega) (chS_size tA tB)
 have lv := leaves (sp := 1) (A := A) (B := B) tS p
 have hnd := rise_nodup (chS_rise 1 A B)
 have hll := chS_len (sp := 1) tA tB
 have hzl := undoP_len (changesS 1 A B) S
 generalize changesS 1 A B = L at *
 have hm : (p ∈ sortT (undoP L S).2) = (p ∈ (undoP L S).2) := propext (sortT_perm _).mem_iff
 have hyl := sortT_len (undoP L S).2
 rw [← hm] at lv
 generalize hY : sortT (undoP L S).2 = Y at *
 generalize (undoP L S).1 = U at *
 have c3 := all3_H U lv.tree.big.len lv.tree.big.size
 rw [(all3_iff U).2 lv.tree] at c3
 (repeat first | refine zE ?_ | refine zA ?_ | refine zC ?_ | refine zB ?_ | refine zD ?_); refine zJ (fun K hK => ?_); simp (maxSteps := 2000000) (disch := omega) only [push_cast, ↓Int.cast_ofNat_Int, simprocAttr, Int.toNat_natCast]
 refine hat 336 cl49 c1 (.cons (.v _) (.cons (lend_tri (lendL (yT _)) (lendL (yT _)) (lendL (yT _))) (.cons (lend_tri (lendL (yT _)) (lendL (yT _)) (lendL (yT _))) .nil))) ?_
 rintro _ _ ⟨rfl, rfl⟩
 with_reducible refine hstop ?_; simp (maxSteps := 2000000) (disch := omega) only [push_cast, ↓Int.cast_ofNat_Int, simprocAttr, Int.toNat_natCast]
 refine hK _ ?_; clear hK K
 refine yB [3, 4, 5, 6, 9] [32, 40, 48, 72, 336] (by simp only [zZ, zR, zP, zQ, zN, zS, zM, zX, zU, Nat.reduceEqDiff, reduceIte]; exact rfl) ?_
 (repeat first | refine zE ?_ | refine zA ?_ | refine zC ?_ | refine zB ?_ | refine zD ?_); refine zJ (fun K hK => ?_); simp (maxSteps := 2000000) (disch := omega) only [push_cast, ↓Int.cast_ofNat_Int, simprocAttr, Int.toNat_natCast]
 refine hat 376 cl42 c2 (.cons (lend_rec (lendO (chs_old _) rfl)) (.cons (lend_tri (lendL (yT _)) (lendL (yT _)) (lendL (yT _))) .nil)) ?_
 rintro _ _ ⟨rfl, rfl⟩
 with_reducible refine hstop ?_; simp (maxSteps := 2000000) (disch := omega) only [push_cast, ↓Int.cast_ofNat_Int, simprocAttr, Int.toNat_natCast]
 refine hK _ ?_; clear hK K
 refine yB [3, 4, 5, 6, 9, 10, 11] [32, 40, 48, 72, 80, 336, 376, 377, 378, 379] (by simp only [zZ, zR, zP, zQ, zN, zS, zM, zX, zU, Nat.reduceEqDiff, reduceIte]; exact rfl) ?_
 (repeat first | refine zE ?_ | refine zA ?_ | refine zC ?_ | refine zB ?_ | refine zD ?_); refine zJ (fun K hK => ?_); simp (maxSteps := 2000000) (disch := omega) only [push_cast, ↓Int.cast_ofNat_Int, simprocAttr, Int.toNat_natCast]
 refine hatv cl40 c3 (.cons (lend_tri (lendO (yT _) rfl) (lendO (yT _) rfl) (lendO (yT _) rfl)) .nil) ?_
 with_reducible refine hstop ?_; simp (maxSteps := 2000000) (disch := omega) only [push_cast, ↓Int.cast_ofNat_Int, simprocAttr, Int.toNat_natCast]
 refine hK _ ?_; clear hK K
 refine yC rfl ?_
 (repeat first | refine zE ?_ | refine zA ?_ | refine zC ?_ | refine zB ?_ | refine zD ?_)
 refine yB [3, 4, 5, 6, 9, 10, 11] [32, 40, 48, 72, 80, 336, 376, 377, 378, 379] (by simp only [zZ, zR, zP, zQ, zN, zS, zM, zX, zU, Nat.reduceEqDiff, reduceIte]; exact rfl) ?_
 refine HW_restS 376 rfl (by simp only [rest_eq, esub_nil, esub_cons, ssub_nil, ssub_cons, hsub_v, hsub_lst, hsub_elt, hsub_junk, hsub_own, hsub_ptr, hsub_vw, hsub_agg, hsub_tup, rsub_sl, rsub_hl, rsub_bx, Nat.reduceEqDiff, reduceIte, List.map_cons, List.map_nil, List.map_append]; exact rfl) ?_
 refine HW_restS 377 rfl (by simp only [rest_eq, esub_nil, esub_cons, ssub_nil, ssub_cons, hsub_v, hsub_lst, hsub_elt, hsub_junk, hsub_own, hsub_ptr, hsub_vw, hsub_agg, hsub_tup, rsub_sl, rsub_hl, rsub_bx, Nat.reduceEqDiff, reduceIte, List.map_cons, List.map_nil, List.map_append]; exact rfl) ?_
 refine HW_restS 378 rfl (by simp only [rest_eq, esub_nil, esub_cons, ssub_nil, ssub_cons, hsub_v, hsub_lst, hsub_elt, hsub_junk, hsub_own, hsub_ptr, hsub_vw, hsub_agg, hsub_tup, rsub_sl, rsub_hl, rsub_bx, Nat.reduceEqDiff, reduceIte, List.map_cons, List.map_nil, List.map_append]; exact rfl) ?_
 refine HW_restS 379 rfl (by simp only [rest_eq, esub_nil, esub_cons, ssub_nil, ssub_cons, hsub_v, hsub_lst, hsub_elt, hsub_junk, hsub_own, hsub_ptr, hsub_vw, hsub_agg, hsub_tup, rsub_sl, rsub_hl, rsub_bx, Nat.reduceEqDiff, reduceIte, List.map_cons, List.map_nil, List.map_append]; exact rfl) ?_
 refine HW_restS 336 rfl (by simp only [rest_eq, esub_nil, esub_cons, ssub_nil, ssub_cons, hsub_v, hsub_lst, hsub_elt, hsub_junk, hsub_own, hsub_ptr, hsub_vw, hsub_agg, hsub_tup, rsub_sl, rsub_hl, rsub_bx, Nat.reduceEqDiff, reduceIte, List.map_cons, List.map_nil, List.map_append]; exact rfl) ?_
 (repeat first | refine zE ?_ | refine zA ?_ | refine zC ?_ | refine zB ?_ | refine zD ?_); refine zJ (fun K hK => ?_); simp (maxSteps := 2000000) (disch := omega) only [push_cast, ↓Int.cast_ofNat_Int, simprocAttr, Int.toNat_natCast]; refine hK _ ?_; clear hK K
 (repeat first | refine zE ?_ | refine zA ?_ | refine zC ?_ | refine zB ?_ | refine zD ?_); refine zJ (fun K hK => ?_); simp (maxSteps := 2000000) (disch := omega) only [push_cast, ↓Int.cast_ofNat_Int, simprocAttr, Int.toNat_natCast]; refine hK _ ?_; clear hK K
 (repeat first | refine zE ?_ | refine zA ?_ | refine zC ?_ | refine zB ?_ | refine zD ?_)
 have hyl2 : Y.length ≤ 1048576 := by omega
 refine HW_loop (fun i : Nat => ⟨[(3, .v (.string p)), (4, .ptr 32 3 0 0), (5, .ptr 40 3 0 0), (6, .ptr 48 3 0 0), (9, .ptr 72 4 0 0), (10, .ptr 80 3 0 0), (11, .lst true (strs Y)), (12, .v (.bool (hasT (Y.take i) p))), (13, .v (.int .i64 i))], [(32, .bx true 53 (triL A)), (40, .bx true 53 (triL B)), (48, .bx true 53 (triL S)), (72, .bx true 52 [.v (.int .i64 0), .v (.int .i64 0), .v (.int .i64 0), .lst true (chs L)]), (80, .bx true 53 (triT U))]⟩) (fun i => i ≤ Y.length) (fun i => Y.length - i) [3, 4, 5, 6, 9, 10, 11, 12, 13] [32, 40, 48, 72, 80] 0 (by simp only [zZ, zR, zP, zQ, zN, zS, zM, zX, zU, Nat.reduceEqDiff, reduceIte]; try rfl) (Nat.zero_le _) ?_
 intro i hi
 by_cases hlt : i < Y.length
 ·have ht := take_mem hlt p
  (repeat first | refine zE ?_ | refine zA ?_ | refine zC ?_ | refine zB ?_ | refine zD ?_); refine zJ (fun K hK => ?_); simp (maxSteps := 2000000) (disch := omega) only [push_cast, ↓Int.cast_ofNat_Int, simprocAttr, Int.toNat_natCast, strs_len]; refine hK _ ?_; clear hK K
  (repeat first | refine zE ?_ | refine zA ?_ | refine zC ?_ | refine zB ?_ | refine zD ?_)
  refine yD rfl ?_
  (repeat first | refine zK ?_ | refine zG ?_ | refine zH ?_ | refine zF rfl ?_ | refine zL ?_ | refine zB ?_ | refine zE ?_ | refine zA ?_ | refine zC ?_ | refine zT ?_ | refine zW ?_)
  cases hb : hasT (Y.take i) p with
  | true =>
   rw [hb, Bool.true_or] at ht
   (repeat first | refine zE ?_ | refine zA ?_ | refine zC ?_ | refine zB ?_ | refine zD ?_); refine zJ (fun K hK => ?_); simp (maxSteps := 2000000) (disch := omega) only [push_cast, ↓Int.cast_ofNat_Int, simprocAttr, Int.toNat_natCast, strs_len, strs_wid, strs_get hlt]; refine hK _ ?_; clear hK K
   (repeat first | refine zK ?_ | refine zG ?_ | refine zH ?_ | refine zF rfl ?_ | refine zL ?_ | refine zB ?_ | refine zE ?_ | refine zA ?_ | refine zC ?_ | refine zT ?_ | refine zW ?_)
   (repeat first | refine zE ?_ | refine zA ?_ | refine zC ?_ | refine zB ?_ | refine zD ?_); refine zJ (fun K hK => ?_); simp (maxSteps := 2000000) (disch := omega) only [push_cast, ↓Int.cast_ofNat_Int, simprocAttr, Int.toNat_natCast]; refine hK _ ?_; clear hK K
   (repeat first | refine zK ?_ | refine zG ?_ | refine zH ?_ | refine zF rfl ?_ | refine zL ?_ | refine zB ?_ | refine zE ?_ | refine zA ?_ | refine zC ?_ | refine zT ?_ | refine zW ?_)
   exact ⟨i + 1, by simp only [zZ, zR, zP, zQ, zN, zS, zM, zX, zU, Nat.reduceEqDiff, reduceIte, ht]; try rfl, hlt, by omega⟩
  | false =>
   rw [hb, Bool.false_or] at ht
   (repeat first | refine zE ?_ | refine zA ?_ | refine zC ?_ | refine zB ?_ | refine zD ?_); refine zJ (fun K hK => ?_); simp (maxSteps := 2000000) (disch := omega) only [push_cast, ↓Int.cast_ofNat_Int, simprocAttr, Int.toNat_natCast, strs_len, strs_wid, strs_get hlt]; refine hK _ ?_; clear hK K
   (repeat first | refine zK ?_ | refine zG ?_ | refine zH ?_ | refine zF rfl ?_ | refine zL ?_ | refine zB ?_ | refine zE ?_ | refine zA ?_ | refine zC ?_ | refine zT ?_ | refine zW ?_)
   (repeat first | refine zE ?_ | refine zA ?_ | refine zC ?_ | refine zB ?_ | refine zD ?_); refine zJ (fun K hK => ?_); simp (maxSteps := 2000000) (disch := omega) only [push_cast, ↓Int.cast_ofNat_Int, simprocAttr, Int.toNat_natCast]; refine hK _ ?_; clear hK K
   (repeat first | refine zK ?_ | refine zG ?_ | refine zH ?_ | refine zF rfl ?_ | refine zL ?_ | refine zB ?_ | refine zE ?_ | refine zA ?_ | refine zC ?_ | refine zT ?_ | refine zW ?_)
   exact ⟨i + 1, by simp only [zZ, zR, zP, zQ, zN, zS, zM, zX, zU, Nat.reduceEqDiff, reduceIte, ht]; try rfl, hlt, by omega⟩
 have hie : i = Y.length := by omega
 subst hie
 rw [List.take_length]
 (repeat first | refine zE ?_ | refine zA ?_ | refine zC ?_ | refine zB ?_ | refine zD ?_); refine zJ (fun K hK => ?_); simp (maxSteps := 2000000) (disch := omega) only [push_cast, ↓Int.cast_ofNat_Int, simprocAttr, Int.toNat_natCast, strs_len]; refine hK _ ?_; clear hK K
 (repeat first | refine zE ?_ | refine zA ?_ | refine zC ?_ | refine zB ?_ | refine zD ?_)
 refine yC rfl ?_
 (repeat first | refine zK ?_ | refine zG ?_ | refine zH ?_ | refine zF rfl ?_ | refine zL ?_ | refine zB ?_ | refine zE ?_ | refine zA ?_ | refine zC ?_ | refine zT ?_ | refine zW ?_)
 (repeat first | refine zE ?_ | refine zA ?_ | refine zC ?_ | refine zB ?_ | refine zD ?_); refine zJ (fun K hK => ?_); simp (maxSteps := 2000000) (disch := omega) only [push_cast, ↓Int.cast_ofNat_Int, simprocAttr, Int.toNat_natCast]; refine hK _ ?_; clear hK K
 (repeat first | refine zE ?_ | refine zA ?_ | refine zC ?_ | refine zB ?_ | refine zD ?_); refine zJ (fun K hK => ?_); simp (maxSteps := 2000000) (disch := omega) only [push_cast, ↓Int.cast_ofNat_Int, simprocAttr, Int.toNat_natCast]; refine hK _ ?_; clear hK K
 (repeat first | refine zE ?_ | refine zA ?_ | refine zC ?_ | refine zB ?_ | refine zD ?_)
 refine yB [3, 4, 5, 6, 9, 10, 12, 14, 15, 16] [32, 40, 48, 72, 80] (by simp only [zZ, zR, zP, zQ, zN, zS, zM, zX, zU, Nat.reduceEqDiff, reduceIte]; exact rfl) ?_
 generalize hbt : hasT Y p = bt
 refine HW_loop (fun x : Nat × Bool × Bool => ⟨[(3, .v (.string p)), (4, .ptr 32 3 0 0), (5, .ptr 40 3 0 0), (6, .ptr 48 3 0 0), (9, .ptr 72 4 0 0), (10, .ptr 80 3 0 0), (12, .v (.bool bt)), (14, .v (.bool x.2.1)), (15, .v (.bool x.2.2)), (16, .v (.int .i64 x.1))], [(32, .bx true 53 (triL A)), (40, .bx true 53 (triL B)), (48, .bx true 53 (triL S)), (72, .bx true 52 [.v (.int .i64 0), .v (.int .i64 0), .v (.int .i64 0), .lst true (chs L)]), (80, .bx true 53 (triT U))]⟩) (fun x => x.1 ≤ L.length ∧ ((x.2.1 = false ∧ x.2.2 = true ∧ p ∉ (L.take x.1).map Chg.p) ∨ (x.2.1 = true ∧ ∃ c ∈ L, c.p = p ∧ x.2.2 = ripe c S))) (fun x => L.length - x.1) [3, 4, 5, 6, 9, 10, 12, 14, 15, 16] [32, 40, 48, 72, 80] (0, false, true) (by simp only [zZ, zR, zP, zQ, zN, zS, zM, zX, zU, Nat.reduceEqDiff, reduceIte]; try rfl) ⟨Nat.zero_le _, .inl ⟨rfl, rfl, by simp⟩⟩ ?_
 rintro ⟨i, bi, br⟩ ⟨hi, hI⟩
 dsimp only at hi hI
 by_cases hlt : i < L.length
 ·(repeat first | refine zE ?_ | refine zA ?_ | refine zC ?_ | refine zB ?_ | refine zD ?_); refine zJ (fun K hK => ?_); simp (maxSteps := 2000000) (disch := omega) only [push_cast, ↓Int.cast_ofNat_Int, simprocAttr, Int.toNat_natCast, chs_len]; refine hK _ ?_; clear hK K
  (repeat first | refine zE ?_ | refine zA ?_ | refine zC ?_ | refine zB ?_ | refine zD ?_)
  refine yD rfl ?_
  (repeat first | refine zK ?_ | refine zG ?_ | refine zH ?_ | refine zF rfl ?_ | refine zL ?_ | refine zB ?_ | refine zE ?_ | refine zA ?_ | refine zC ?_ | refine zT ?_ | refine zW ?_)
  (repeat first | refine zE ?_ | refine zA ?_ | refine zC ?_ | refine zB ?_ | refine zD ?_); refine zJ (fun K hK => ?_); simp (maxSteps := 2000000) (disch := omega) only [push_cast, ↓Int.cast_ofNat_Int, simprocAttr, Int.toNat_natCast, chs_len, chs_wid, chs_get hlt]; refine hK _ ?_; clear hK K
  (repeat first | refine zE ?_ | refine zA ?_ | refine zC ?_ | refine zB ?_ | refine zD ?_)
  by_cases he : L[i].p = p
  ·have hd : decide (L[i].p = p) = true := decide_eq_true he
   rw [hd]
   refine yD rfl ?_
   have c47 := ripe_H L[i] S (fun k hk => (tS.tr k).ri) (fun k hk => by have := (tS.tr k).len; omega)
   (repeat first | refine zE ?_ | refine zA ?_ | refine zC ?_ | refine zB ?_ | refine zD ?_); refine zJ (fun K hK => ?_); simp (maxSteps := 2000000) (disch := omega) only [push_cast, ↓Int.cast_ofNat_Int, simprocAttr, Int.toNat_natCast]; refine hK _ ?_; clear hK K
   (repeat first | refine zE ?_ | refine zA ?_ | refine zC ?_ | refine zB ?_ | refine zD ?_)
   (repeat first | refine zE ?_ | refine zA ?_ | refine zC ?_ | refine zB ?_ | refine zD ?_); refine HW_drwR2 8 mixed (by kernel_rfl) (fun K hK K1 hK1 => ?_); simp (maxSteps := 2000000) (disch := omega) only [push_cast, ↓Int.cast_ofNat_Int, simprocAttr, Int.toNat_natCast, chs_len, chs_wid, chs_get hlt]
   refine hatRv cl47 c47 (.cons (lend_chg L[i]) (.cons (lend_tri (lendL (yT _)) (lendL (yT _)) (lendL (yT _))) .nil)) ?_
   with_reducible refine hstop ?_; simp (maxSteps := 2000000) (disch := omega) only [push_cast, ↓Int.cast_ofNat_Int, simprocAttr, Int.toNat_natCast]
   refine hK1 _ ?_; clear hK1 K1; with_reducible refine hstop ?_; simp (maxSteps := 2000000) (disch := omega) only [push_cast, ↓Int.cast_ofNat_Int, simprocAttr, Int.toNat_natCast]
   refine hK _ ?_; clear hK K
   (repeat first | refine zK ?_ | refine zG ?_ | refine zH ?_ | refine zF rfl ?_ | refine zL ?_ | refine zB ?_ | refine zE ?_ | refine zA ?_ | refine zC ?_ | refine zT ?_ | refine zW ?_)
   (repeat first | refine zE ?_ | refine zA ?_ | refine zC ?_ | refine zB ?_ | refine zD ?_); refine zJ (fun K hK => ?_); simp (maxSteps := 2000000) (disch := omega) only [push_cast, ↓Int.cast_ofNat_Int, simprocAttr, Int.toNat_natCast]; refine hK _ ?_; clear hK K
   (repeat first | refine zK ?_ | refine zG ?_ | refine zH ?_ | refine zF rfl ?_ | refine zL ?_ | refine zB ?_ | refine zE ?_ | refine zA ?_ | refine zC ?_ | refine zT ?_ | refine zW ?_)
   exact ⟨(i + 1, true, ripe L[i] S), by simp only [zZ, zR, zP, zQ, zN, zS, zM, zX, zU, Nat.reduceEqDiff, reduceIte]; try rfl, ⟨hlt, .inr ⟨rfl, L[i], List.getElem_mem hlt, he, rfl⟩⟩, by dsimp only; omega⟩
  ·have hd : decide (L[i].p = p) = false := decide_eq_false he
   rw [hd]
   refine yC rfl ?_
   (repeat first | refine zK ?_ | refine zG ?_ | refine zH ?_ | refine zF rfl ?_ | refine zL ?_ | refine zB ?_ | refine zE ?_ | refine zA ?_ | refine zC ?_ | refine zT ?_ | refine zW ?_)
   (repeat first | refine zE ?_ | refine zA ?_ | refine zC ?_ | refine zB ?_ | refine zD ?_); refine zJ (fun K hK => ?_); simp (maxSteps := 2000000) (disch := omega) only [push_cast, ↓Int.cast_ofNat_Int, simprocAttr, Int.toNat_natCast]; refine hK _ ?_; clear hK K
   (repeat first | refine zK ?_ | refine zG ?_ | refine zH ?_ | refine zF rfl ?_ | refine zL ?_ | refine zB ?_ | refine zE ?_ | refine zA ?_ | refine zC ?_ | refine zT ?_ | refine zW ?_)
   refine ⟨(i + 1, bi, br), by simp only [zZ, zR, zP, zQ, zN, zS, zM, zX, zU, Nat.reduceEqDiff, reduceIte]; try rfl, ⟨hlt, ?_⟩, by dsimp only; omega⟩
   rcases hI with ⟨a, b, d⟩ | h
   ·refine .inl ⟨a, b, fun hm => ?_⟩
    rw [List.take_succ_eq_append_getElem hlt, List.map_append, List.mem_append] at hm
    rcases hm with hm | hm
    ·exact d hm
    ·simp only [List.map_cons, List.map_nil, List.mem_singleton] at hm
     exact he hm.symm
   ·exact .inr h
 have hie : i = L.length := by omega
 subst hie
 rw [List.take_length] at hI
 have hin : bi = hasT (L.map Chg.p) p := by
  rcases hI with ⟨rfl, -, h⟩ | ⟨rfl, c, hc, hp, -⟩
  ·exact (hasT_no h).symm
  ·exact (hasT_iff.2 (List.mem_map.2 ⟨c, hc, hp⟩)).symm
 have hcase : (bi = false ∧ bt = false) ∨ (bi = true ∧ bt = true) ∨ (bi = true ∧ br = true ∧ bt = false) := by
  rcases hI with ⟨rfl, -, h⟩ | ⟨rfl, c, hc, hp, hr⟩
  ·exact .inl ⟨rfl, by rw [← hbt]; exact hasT_no fun ht => h (lv.inn ht)⟩
  ·cases hb : bt with
   | true => exact .inr (.inl ⟨rfl, rfl⟩)
   | false =>
    refine .inr (.inr ⟨rfl, ?_, rfl⟩)
    cases hbr : br with
    | true => rfl
    | false =>
     rw [hbr] at hr
     have := lv.stale c hc hp hr.symm
     rw [hb] at hbt
     rw [hasT_iff.2 this] at hbt; cases hbt
 (repeat first | refine zE ?_ | refine zA ?_ | refine zC ?_ | refine zB ?_ | refine zD ?_); refine zJ (fun K hK => ?_); simp (maxSteps := 2000000) (disch := omega) only [push_cast, ↓Int.cast_ofNat_Int, simprocAttr, Int.toNat_natCast, chs_len]; refine hK _ ?_; clear hK K
 (repeat first | refine zE ?_ | refine zA ?_ | refine zC ?_ | refine zB ?_ | refine zD ?_)
 refine yC rfl ?_
 (repeat first | refine zK ?_ | refine zG ?_ | refine zH ?_ | refine zF rfl ?_ | refine zL ?_ | refine zB ?_ | refine zE ?_ | refine zA ?_ | refine zC ?_ | refine zT ?_ | refine zW ?_)
 refine yB [3, 4, 5, 6, 10, 12, 14, 15] [32, 40, 48, 80] (by simp only [zZ, zR, zP, zQ, zN, zS, zM, zX, zU, Nat.reduceEqDiff, reduceIte]; exact rfl) ?_
 (repeat first | refine zE ?_ | refine zA ?_ | refine zC ?_ | refine zB ?_ | refine zD ?_)
 refine HW_meet (fun _ : Unit => ⟨[(3, .v (.string p)), (4, .ptr 32 3 0 0), (5, .ptr 40 3 0 0), (6, .ptr 48 3 0 0), (10, .ptr 80 3 0 0), (12, .v (.bool bt)), (14, .v (.bool bi)), (105, .v (.bool false))], [(32, .bx true 53 (triL A)), (40, .bx true 53 (triL B)), (48, .bx true 53 (triL S)), (80, .bx true 53 (triT U))]⟩) (fun _ => True) [3, 4, 5, 6, 10, 12, 14, 105] [32, 40, 48, 80] ?_ ?_
 ·rcases hcase with ⟨rfl, rfl⟩ | ⟨rfl, rfl⟩ | ⟨rfl, rfl, rfl⟩
  ·(repeat first | refine zE ?_ | refine zA ?_ | refine zC ?_ | refine zB ?_ | refine zD ?_); refine zJ (fun K hK => ?_); simp (maxSteps := 2000000) (disch := omega) only [push_cast, ↓Int.cast_ofNat_Int, simprocAttr, Int.toNat_natCast]; refine hK _ ?_; clear hK K
   exact ⟨(), by simp only [zZ, zR, zP, zQ, zN, zS, zM, zX, zU, Nat.reduceEqDiff, reduceIte]; try rfl, trivial⟩
  ·cases br with
   | true =>
    (repeat first | refine zE ?_ | refine zA ?_ | refine zC ?_ | refine zB ?_ | refine zD ?_); refine zJ (fun K hK => ?_); simp (maxSteps := 2000000) (disch := omega) only [push_cast, ↓Int.cast_ofNat_Int, simprocAttr, Int.toNat_natCast]; refine hK _ ?_; clear hK K
    exact ⟨(), by simp only [zZ, zR, zP, zQ, zN, zS, zM, zX, zU, Nat.reduceEqDiff, reduceIte]; try rfl, trivial⟩
   | false =>
    (repeat first | refine zE ?_ | refine zA ?_ | refine zC ?_ | refine zB ?_ | refine zD ?_); refine zJ (fun K hK => ?_); simp (maxSteps := 2000000) (disch := omega) only [push_cast, ↓Int.cast_ofNat_Int, simprocAttr, Int.toNat_natCast]; refine hK _ ?_; clear hK K
    exact ⟨(), by simp only [zZ, zR, zP, zQ, zN, zS, zM, zX, zU, Nat.reduceEqDiff, reduceIte]; try rfl, trivial⟩
  ·(repeat first | refine zE ?_ | refine zA ?_ | refine zC ?_ | refine zB ?_ | refine zD ?_); refine zJ (fun K hK => ?_); simp (maxSteps := 2000000) (disch := omega) only [push_cast, ↓Int.cast_ofNat_Int, simprocAttr, Int.toNat_natCast]; refine hK _ ?_; clear hK K
   exact ⟨(), by simp only [zZ, zR, zP, zQ, zN, zS, zM, zX, zU, Nat.reduceEqDiff, reduceIte]; try rfl, trivial⟩
 intro S' _ hE _
 (repeat first | refine zK ?_ | refine zG ?_ | refine zH ?_ | refine zF rfl ?_ | refine zL ?_ | refine zB ?_ | refine zE ?_ | refine zA ?_ | refine zC ?_ | refine zT ?_ | refine zW ?_)
 refine yB [3, 4, 5, 6, 10, 12, 14, 105] [32, 40, 48, 80] hE ?_
 clear hE
 refine yC rfl ?_
 (repeat first | refine zE ?_ | refine zA ?_ | refine zC ?_ | refine zB ?_ | refine zD ?_)
 (repeat first | refine zE ?_ | refine zA ?_ | refine zC ?_ | refine zB ?_ | refine zD ?_); refine zJ (fun K hK => ?_); simp (maxSteps := 2000000) (disch := omega) only [push_cast, ↓Int.cast_ofNat_Int, simprocAttr, Int.toNat_natCast]; refine hK _ ?_; clear hK K
 (repeat first | refine zE ?_ | refine zA ?_ | refine zC ?_ | refine zB ?_ | refine zD ?_)
 refine HW_loop (fun k : Nat => ⟨[(3, .v (.string p)), (4, .ptr 32 3 0 0), (5, .ptr 40 3 0 0), (6, .ptr 48 3 0 0), (10, .ptr 80 3 0 0), (12, .v (.bool bt)), (14, .v (.bool bi)), (17, .v (.int .i64 k))], [(32, .bx true 53 (triL A)), (40, .bx true 53 (triL B)), (48, .bx true 53 (triL S)), (80, .bx true 53 (triT U))]⟩) (fun k => k ≤ 3) (fun k => 3 - k) [3, 4, 5, 6, 10, 12, 14, 17] [32, 40, 48, 80] 0 (by simp only [zZ, zR, zP, zQ, zN, zS, zM, zX, zU, Nat.reduceEqDiff, reduceIte]; try rfl) (Nat.zero_le _) ?_
 intro k hk
 by_cases hlt : k < 3
 ·(repeat first | refine zE ?_ | refine zA ?_ | refine zC ?_ | refine zB ?_ | refine zD ?_); refine zJ (fun K hK => ?_); simp (maxSteps := 2000000) (disch := omega) only [push_cast, ↓Int.cast_ofNat_Int, simprocAttr, Int.toNat_natCast]; refine hK _ ?_; clear hK K
  (repeat first | refine zE ?_ | refine zA ?_ | refine zC ?_ | refine zB ?_ | refine zD ?_)
  refine yD rfl ?_
  (repeat first | refine zK ?_ | refine zG ?_ | refine zH ?_ | refine zF rfl ?_ | refine zL ?_ | refine zB ?_ | refine zE ?_ | refine zA ?_ | refine zC ?_ | refine zT ?_ | refine zW ?_)
  have gU := triT_getD U hlt
  have gS := tri_getD S hlt
  have gA := tri_getD A hlt
  have gB := tri_getD B hlt
  have kU := rget_H (tr U k) p (by have := lv.tree.len k hlt; omega)
  have kS := rget_H (tr S k) p (by have := tS.len k hlt; omega)
  have kA := rget_H (tr A k) p (by have := tA.len k hlt; omega)
  have kB := rget_H (tr B k) p (by have := tB.len k hlt; omega)
  have lkk := lv.keep k hlt
  have lb := lv.back k hlt
  generalize getN (tr U k) p = nu at *
  generalize getN (tr S k) p = ns at *
  generalize getN (tr A k) p = na at *
  generalize getN (tr B k) p = nb at *
  obtain ⟨ku, du⟩ := nu
  obtain ⟨ks, ds⟩ := ns
  obtain ⟨ka, da⟩ := na
  obtain ⟨kb, db⟩ := nb
  (repeat first | refine zE ?_ | refine zA ?_ | refine zC ?_ | refine zB ?_ | refine zD ?_); refine HW_drwF 24 [] [[(32, .bx true 53 (triL A)), (40, .bx true 53 (triL B)), (48, .bx true 53 (triL S)), (80, .bx true 53 (triT U))]] [(2, 0, 0), (7, 0, 0), (12, 0, 0), (17, 0, 0), (4, 0, 0), (9, 0, 0), (14, 0, 0), (19, 0, 0)] [(20, 18, 144, 24, [.int .i64 0, .string ByteArray.empty]), (21, 19, 152, 24, [.int .i64 0, .string ByteArray.empty]), (22, 20, 160, 24, [.int .i64 0, .string ByteArray.empty]), (23, 21, 168, 24, [.int .i64 0, .string ByteArray.empty])] mixed (by kernel_rfl) (by kernel_rfl) (by kernel_rfl) (by repeat' first | exact trivial | refine ⟨⟨rfl, rfl, rfl⟩, by kernel_rfl, rfl, ?_⟩) rfl (fun K hK K1 hK1 => ?_); simp (maxSteps := 2000000) (disch := omega) only [push_cast, ↓Int.cast_ofNat_Int, simprocAttr, Int.toNat_natCast, nextW_nil, nextW_cons, rgOf_nil, rgOf_cons, kf_some, kf_no, stays_nil, stays_cons, strongK_store, strongK_copy, strongK_app, strongK_build, strongK_alloc, hwr2_go, hwr2_call, hall_zero, hall_one, hall_two, hall_three, slotsW_store, slotsW_call, hvca_eq, hvcb_eq, hvce_eq, hvcw_some, hvcw_none, hvc1_none, hvc1_some, hvc_nil, hvcS_some, hvcS_none, hvc_cons, List.tail_cons, List.take_nil, List.drop_nil, implies_true, inF_nil, inF_cons, dullT_nil, dullT_cons, dullO_mk, bSt_nil, bSt_cons, bEn_nil, bEn_cons, bKeep_nil, bKeep_cons, Bool.or_false, Bool.false_or, Bool.true_or, Bool.or_true, gU, gS, gA, gB]
  refine hatRn cl26 kU (.cons (lendL (yT _)) (.cons (.v _) .nil)) ?_
  (try with_reducible refine hstop ?_); simp (maxSteps := 2000000) (disch := omega) only [push_cast, ↓Int.cast_ofNat_Int, simprocAttr, Int.toNat_natCast, hren_v, hren_lst, hren_own, hren_vw, hren_tup, hren_agg, List.map_cons, List.map_nil, nextW_nil, nextW_cons, rgOf_nil, rgOf_cons, kf_some, kf_no, stays_nil, stays_cons, strongK_store, strongK_copy, strongK_app, strongK_build, strongK_alloc, hwr2_go, hwr2_call, hall_zero, hall_one, hall_two, hall_three, slotsW_store, slotsW_call, hvca_eq, hvcb_eq, hvce_eq, hvcw_some, hvcw_none, hvc1_none, hvc1_some, hvc_nil, hvcS_some, hvcS_none, hvc_cons, List.tail_cons, List.take_nil, List.drop_nil, implies_true, gU, gS, gA, gB, inF_nil, inF_cons, dullT_nil, dullT_cons, dullO_mk, bSt_nil, bSt_cons, bEn_nil, bEn_cons, bKeep_nil, bKeep_cons, Bool.or_false, Bool.false_or, Bool.true_or, Bool.or_true, ekill_nil, ekill_cons, skill_nil, skill_cons, rkill_sl, rkill_bx, rkill_hl, hkill_v, hkill_lst, hkill_own, hkill_ptr, hkill_vw, hkill_agg, hkill_tup, hkill_junk, only_eq]
  refine hatRn cl26 kS (.cons (lendL (yT _)) (.cons (.v _) .nil)) ?_
  (try with_reducible refine hstop ?_); simp (maxSteps := 2000000) (disch := omega) only [push_cast, ↓Int.cast_ofNat_Int, simprocAttr, Int.toNat_natCast, hren_v, hren_lst, hren_own, hren_vw, hren_tup, hren_agg, List.map_cons, List.map_nil, nextW_nil, nextW_cons, rgOf_nil, rgOf_cons, kf_some, kf_no, stays_nil, stays_cons, strongK_store, strongK_copy, strongK_app, strongK_build, strongK_alloc, hwr2_go, hwr2_call, hall_zero, hall_one, hall_two, hall_three, slotsW_store, slotsW_call, hvca_eq, hvcb_eq, hvce_eq, hvcw_some, hvcw_none, hvc1_none, hvc1_some, hvc_nil, hvcS_some, hvcS_none, hvc_cons, List.tail_cons, List.take_nil, List.drop_nil, implies_true, gU, gS, gA, gB, inF_nil, inF_cons, dullT_nil, dullT_cons, dullO_mk, bSt_nil, bSt_cons, bEn_nil, bEn_cons, bKeep_nil, bKeep_cons, Bool.or_false, Bool.false_or, Bool.true_or, Bool.or_true, ekill_nil, ekill_cons, skill_nil, skill_cons, rkill_sl, rkill_bx, rkill_hl, hkill_v, hkill_lst, hkill_own, hkill_ptr, hkill_vw, hkill_agg, hkill_tup, hkill_junk, only_eq]
  refine hatRn cl26 kA (.cons (lendL (yT _)) (.cons (.v _) .nil)) ?_
  (try with_reducible refine hstop ?_); simp (maxSteps := 2000000) (disch := omega) only [push_cast, ↓Int.cast_ofNat_Int, simprocAttr, Int.toNat_natCast, hren_v, hren_lst, hren_own, hren_vw, hren_tup, hren_agg, List.map_cons, List.map_nil, nextW_nil, nextW_cons, rgOf_nil, rgOf_cons, kf_some, kf_no, stays_nil, stays_cons, strongK_store, strongK_copy, strongK_app, strongK_build, strongK_alloc, hwr2_go, hwr2_call, hall_zero, hall_one, hall_two, hall_three, slotsW_store, slotsW_call, hvca_eq, hvcb_eq, hvce_eq, hvcw_some, hvcw_none, hvc1_none, hvc1_some, hvc_nil, hvcS_some, hvcS_none, hvc_cons, List.tail_cons, List.take_nil, List.drop_nil, implies_true, gU, gS, gA, gB, inF_nil, inF_cons, dullT_nil, dullT_cons, dullO_mk, bSt_nil, bSt_cons, bEn_nil, bEn_cons, bKeep_nil, bKeep_cons, Bool.or_false, Bool.false_or, Bool.true_or, Bool.or_true, ekill_nil, ekill_cons, skill_nil, skill_cons, rkill_sl, rkill_bx, rkill_hl, hkill_v, hkill_lst, hkill_own, hkill_ptr, hkill_vw, hkill_agg, hkill_tup, hkill_junk, only_eq]
  refine hatRn cl26 kB (.cons (lendL (yT _)) (.cons (.v _) .nil)) ?_
  (try with_reducible refine hstop ?_); simp (maxSteps := 2000000) (disch := omega) only [push_cast, ↓Int.cast_ofNat_Int, simprocAttr, Int.toNat_natCast, hren_v, hren_lst, hren_own, hren_vw, hren_tup, hren_agg, List.map_cons, List.map_nil, nextW_nil, nextW_cons, rgOf_nil, rgOf_cons, kf_some, kf_no, stays_nil, stays_cons, strongK_store, strongK_copy, strongK_app, strongK_build, strongK_alloc, hwr2_go, hwr2_call, hall_zero, hall_one, hall_two, hall_three, slotsW_store, slotsW_call, hvca_eq, hvcb_eq, hvce_eq, hvcw_some, hvcw_none, hvc1_none, hvc1_some, hvc_nil, hvcS_some, hvcS_none, hvc_cons, List.tail_cons, List.take_nil, List.drop_nil, implies_true, gU, gS, gA, gB, inF_nil, inF_cons, dullT_nil, dullT_cons, dullO_mk, bSt_nil, bSt_cons, bEn_nil, bEn_cons, bKeep_nil, bKeep_cons, Bool.or_false, Bool.false_or, Bool.true_or, Bool.or_true, ekill_nil, ekill_cons, skill_nil, skill_cons, rkill_sl, rkill_bx, rkill_hl, hkill_v, hkill_lst, hkill_own, hkill_ptr, hkill_vw, hkill_agg, hkill_tup, hkill_junk, only_eq]
  refine hK1 _ ?_; clear hK1 K1; with_reducible refine hstop ?_; simp (maxSteps := 2000000) (disch := omega) only [push_cast, ↓Int.cast_ofNat_Int, simprocAttr, Int.toNat_natCast]
  refine hK _ ?_; clear hK K
  refine yB [3, 4, 5, 6, 10, 12, 14, 17, 18, 19, 20, 21] [32, 40, 48, 80, 144, 152, 160, 168] (by simp only [zZ, zR, zP, zQ, zN, zS, zM, zX, zU, Nat.reduceEqDiff, reduceIte]; exact rfl) ?_
  rcases hcase with ⟨rfl, rfl⟩ | ⟨rfl, rfl⟩ | ⟨rfl, -, rfl⟩
  ·have e := lkk (.inl fun h => by rw [hasT_iff.2 h] at hin; cases hin)
   cases e
   have hd : decide (ku = ku ∧ du = du) = true := decide_eq_true ⟨rfl, rfl⟩
   (repeat first | refine zE ?_ | refine zA ?_ | refine zC ?_ | refine zB ?_ | refine zD ?_); refine zJ (fun K hK => ?_); simp (maxSteps := 2000000) (disch := omega) only [push_cast, ↓Int.cast_ofNat_Int, simprocAttr, Int.toNat_natCast]
   refine ⟨_, eqN _ _ _ _, ?_⟩
   with_reducible refine hstop ?_; simp (maxSteps := 2000000) (disch := omega) only [push_cast, ↓Int.cast_ofNat_Int, simprocAttr, Int.toNat_natCast, hd]
   refine hK _ ?_; clear hK K
   refine yC rfl ?_
   (repeat first | refine zK ?_ | refine zG ?_ | refine zH ?_ | refine zF rfl ?_ | refine zL ?_ | refine zB ?_ | refine zE ?_ | refine zA ?_ | refine zC ?_ | refine zT ?_ | refine zW ?_)
   (repeat first | refine zE ?_ | refine zA ?_ | refine zC ?_ | refine zB ?_ | refine zD ?_); refine zJ (fun K hK => ?_); simp (maxSteps := 2000000) (disch := omega) only [push_cast, ↓Int.cast_ofNat_Int, simprocAttr, Int.toNat_natCast]; refine hK _ ?_; clear hK K
   (repeat first | refine zK ?_ | refine zG ?_ | refine zH ?_ | refine zF rfl ?_ | refine zL ?_ | refine zB ?_ | refine zE ?_ | refine zA ?_ | refine zC ?_ | refine zT ?_ | refine zW ?_)
   exact ⟨k + 1, by simp only [zZ, zR, zP, zQ, zN, zS, zM, zX, zU, Nat.reduceEqDiff, reduceIte]; try rfl, hlt, by omega⟩
  ·have e := lkk (.inr (.inl (hasT_iff.1 hbt)))
   cases e
   have hd : decide (ku = ku ∧ du = du) = true := decide_eq_true ⟨rfl, rfl⟩
   (repeat first | refine zE ?_ | refine zA ?_ | refine zC ?_ | refine zB ?_ | refine zD ?_); refine zJ (fun K hK => ?_); simp (maxSteps := 2000000) (disch := omega) only [push_cast, ↓Int.cast_ofNat_Int, simprocAttr, Int.toNat_natCast]
   refine ⟨_, eqN _ _ _ _, ?_⟩
   with_reducible refine hstop ?_; simp (maxSteps := 2000000) (disch := omega) only [push_cast, ↓Int.cast_ofNat_Int, simprocAttr, Int.toNat_natCast, hd]
   refine hK _ ?_; clear hK K
   refine yC rfl ?_
   (repeat first | refine zK ?_ | refine zG ?_ | refine zH ?_ | refine zF rfl ?_ | refine zL ?_ | refine zB ?_ | refine zE ?_ | refine zA ?_ | refine zC ?_ | refine zT ?_ | refine zW ?_)
   (repeat first | refine zE ?_ | refine zA ?_ | refine zC ?_ | refine zB ?_ | refine zD ?_); refine zJ (fun K hK => ?_); simp (maxSteps := 2000000) (disch := omega) only [push_cast, ↓Int.cast_ofNat_Int, simprocAttr, Int.toNat_natCast]; refine hK _ ?_; clear hK K
   (repeat first | refine zK ?_ | refine zG ?_ | refine zH ?_ | refine zF rfl ?_ | refine zL ?_ | refine zB ?_ | refine zE ?_ | refine zA ?_ | refine zC ?_ | refine zT ?_ | refine zW ?_)
   exact ⟨k + 1, by simp only [zZ, zR, zP, zQ, zN, zS, zM, zX, zU, Nat.reduceEqDiff, reduceIte]; try rfl, hlt, by omega⟩
  ·have hno : ¬ p ∈ Y := fun h => by rw [hasT_iff.2 h] at hbt; cases hbt
   have hpi : p ∈ L.map Chg.p := hasT_iff.1 hin.symm
   cases hab : decide (ka = kb ∧ da = db) with
   | true =>
    have e := lkk (.inr (.inr (Prod.ext_iff.2 (of_decide_eq_true hab))))
    cases e
    have hd : decide (ku = ku ∧ du = du) = true := decide_eq_true ⟨rfl, rfl⟩
    (repeat first | refine zE ?_ | refine zA ?_ | refine zC ?_ | refine zB ?_ | refine zD ?_); refine zJ (fun K hK => ?_); simp (maxSteps := 2000000) (disch := omega) only [push_cast, ↓Int.cast_ofNat_Int, simprocAttr, Int.toNat_natCast]
    refine ⟨_, eqN _ _ _ _, ?_⟩
    with_reducible refine hstop ?_; simp (maxSteps := 2000000) (disch := omega) only [push_cast, ↓Int.cast_ofNat_Int, simprocAttr, Int.toNat_natCast, hab]
    refine ⟨_, eqN _ _ _ _, ?_⟩
    with_reducible refine hstop ?_; simp (maxSteps := 2000000) (disch := omega) only [push_cast, ↓Int.cast_ofNat_Int, simprocAttr, Int.toNat_natCast, hab, hd]
    refine ⟨_, eqN _ _ _ _, ?_⟩
    with_reducible refine hstop ?_; simp (maxSteps := 2000000) (disch := omega) only [push_cast, ↓Int.cast_ofNat_Int, simprocAttr, Int.toNat_natCast, hab, hd]
    refine hK _ ?_; clear hK K
    refine yC rfl ?_
    (repeat first | refine zK ?_ | refine zG ?_ | refine zH ?_ | refine zF rfl ?_ | refine zL ?_ | refine zB ?_ | refine zE ?_ | refine zA ?_ | refine zC ?_ | refine zT ?_ | refine zW ?_)
    (repeat first | refine zE ?_ | refine zA ?_ | refine zC ?_ | refine zB ?_ | refine zD ?_); refine zJ (fun K hK => ?_); simp (maxSteps := 2000000) (disch := omega) only [push_cast, ↓Int.cast_ofNat_Int, simprocAttr, Int.toNat_natCast]; refine hK _ ?_; clear hK K
    (repeat first | refine zK ?_ | refine zG ?_ | refine zH ?_ | refine zF rfl ?_ | refine zL ?_ | refine zB ?_ | refine zE ?_ | refine zA ?_ | refine zC ?_ | refine zT ?_ | refine zW ?_)
    exact ⟨k + 1, by simp only [zZ, zR, zP, zQ, zN, zS, zM, zX, zU, Nat.reduceEqDiff, reduceIte]; try rfl, hlt, by omega⟩
   | false =>
    have e := lb hpi hno (fun h => of_decide_eq_false hab (Prod.ext_iff.1 h))
    cases e
    have hd : decide (ku = ku ∧ du = du) = true := decide_eq_true ⟨rfl, rfl⟩
    (repeat first | refine zE ?_ | refine zA ?_ | refine zC ?_ | refine zB ?_ | refine zD ?_); refine zJ (fun K hK => ?_); simp (maxSteps := 2000000) (disch := omega) only [push_cast, ↓Int.cast_ofNat_Int, simprocAttr, Int.toNat_natCast]
    refine ⟨_, eqN _ _ _ _, ?_⟩
    with_reducible refine hstop ?_; simp (maxSteps := 2000000) (disch := omega) only [push_cast, ↓Int.cast_ofNat_Int, simprocAttr, Int.toNat_natCast, hab]
    refine ⟨_, eqN _ _ _ _, ?_⟩
    with_reducible refine hstop ?_; simp (maxSteps := 2000000) (disch := omega) only [push_cast, ↓Int.cast_ofNat_Int, simprocAttr, Int.toNat_natCast, hab, hd]
    refine ⟨_, eqN _ _ _ _, ?_⟩
    with_reducible refine hstop ?_; simp (maxSteps := 2000000) (disch := omega) only [push_cast, ↓Int.cast_ofNat_Int, simprocAttr, Int.toNat_natCast, hab, hd]
    refine hK _ ?_; clear hK K
    refine yC rfl ?_
    (repeat first | refine zK ?_ | refine zG ?_ | refine zH ?_ | refine zF rfl ?_ | refine zL ?_ | refine zB ?_ | refine zE ?_ | refine zA ?_ | refine zC ?_ | refine zT ?_ | refine zW ?_)
    (repeat first | refine zE ?_ | refine zA ?_ | refine zC ?_ | refine zB ?_ | refine zD ?_); refine zJ (fun K hK => ?_); simp (maxSteps := 2000000) (disch := omega) only [push_cast, ↓Int.cast_ofNat_Int, simprocAttr, Int.toNat_natCast]; refine hK _ ?_; clear hK K
    (repeat first | refine zK ?_ | refine zG ?_ | refine zH ?_ | refine zF rfl ?_ | refine zL ?_ | refine zB ?_ | refine zE ?_ | refine zA ?_ | refine zC ?_ | refine zT ?_ | refine zW ?_)
    exact ⟨k + 1, by simp only [zZ, zR, zP, zQ, zN, zS, zM, zX, zU, Nat.reduceEqDiff, reduceIte]; try rfl, hlt, by omega⟩
 have hk3 : k = 3 := by omega
 subst hk3
 (repeat first | refine zE ?_ | refine zA ?_ | refine zC ?_ | refine zB ?_ | refine zD ?_); refine zJ (fun K hK => ?_); simp (maxSteps := 2000000) (disch := omega) only [push_cast, ↓Int.cast_ofNat_Int, simprocAttr, Int.toNat_natCast]; refine hK _ ?_; clear hK K
 (repeat first | refine zE ?_ | refine zA ?_ | refine zC ?_ | refine zB ?_ | refine zD ?_)
 refine yC rfl ?_
 (repeat first | refine zK ?_ | refine zG ?_ | refine zH ?_ | refine zF rfl ?_ | refine zL ?_ | refine zB ?_ | refine zE ?_ | refine zA ?_ | refine zC ?_ | refine zT ?_ | refine zW ?_)
 (repeat first | refine zE ?_ | refine zA ?_ | refine zC ?_ | refine zB ?_ | refine zD ?_); refine zJ (fun K hK => ?_); simp (maxSteps := 2000000) (disch := omega) only [push_cast, ↓Int.cast_ofNat_Int, simprocAttr, Int.toNat_natCast]; refine hK _ ?_; clear hK K
 (repeat first | refine zK ?_ | refine zG ?_ | refine zH ?_ | refine zF rfl ?_ | refine zL ?_ | refine zB ?_ | refine zE ?_ | refine zA ?_ | refine zC ?_ | refine zT ?_ | refine zW ?_)
 simp only [yA, yM, yH, yE, resH_cell, resC_go, yK, yJ, zS, zM, Nat.reduceEqDiff, reduceIte, reduceCtorEq]
 exact hres_v rfl
end Go.Proofs.YtkonlklieacjoaaDoor
