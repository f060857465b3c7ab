/-
  undo.Plan.
-/
import Derived.Test.YtkonlklieacjoaaDoorUbk
import Derived.Test.YtkonlklieacjoaaDoorUdl
import Derived.Test.YtkonlklieacjoaaDoorUch
set_option linter.unusedSimpArgs false
set_option linter.unusedVariables false
set_option maxRecDepth 20000
namespace Go.Tr
open Go Go.Eng Go.RowKit
theorem hres_trio {S : HS} {a b c d : Nat} {U : Tri} {l : List ByteArray} {Q : HV → Store → Prop} (h0 : rlk S.st a = some (rowE U.1)) (h1 : rlk S.st b = some (rowE U.2.1)) (h2 : rlk S.st c = some (rowE U.2.2)) (h3 : rlk S.st d = some (rowS l)) (hab : a ≠ b) (hac : a ≠ c) (hbc : b ≠ c) (had : a ≠ d) (hbd : b ≠ d) (hcd : c ≠ d)
  (q : Q (.tup [.agg [.own 0, .own 1, .own 2], .own 3]) (triS U 0 1 2 ++ [(3, rowS l)])) : HRes S (.tup [.agg [.own a, .own b, .own c], .own d]) Q := by
 refine ⟨[a, b, c, d], by simp, by simp [dup, hab.symm, hac.symm, hbc.symm, hab, hac, hbc, had, had.symm, hbd, hbd.symm, hcd, hcd.symm], .tup fun x hx => ?_, fun id hid r hr => ?_, ?_⟩
 ·simp only [List.mem_cons, List.not_mem_nil, or_false] at hx
  rcases hx with rfl | rfl
  ·refine .agg fun y hy => ?_
   simp only [List.mem_cons, List.not_mem_nil, or_false] at hy
   rcases hy with rfl | rfl | rfl <;> exact .own _
  ·exact .own _
 ·simp only [List.mem_cons, List.not_mem_nil, or_false] at hid
  rcases hid with rfl | rfl | rfl | rfl
  ·rw [h0] at hr; cases hr; exact ⟨rfl, ents_fresh _⟩
  ·rw [h1] at hr; cases hr; exact ⟨rfl, ents_fresh _⟩
  ·rw [h2] at hr; cases hr; exact ⟨rfl, ents_fresh _⟩
  ·rw [h3] at hr; cases hr; exact ⟨rfl, strs_fresh _⟩
 ·have e : rpick (pos [a, b, c, d]) S.st 0 [a, b, c, d] = triS U 0 1 2 ++ [(3, rowS l)] := by
   simp only [rpick, h0, h1, h2, h3, Row.ren]; rfl
  rw [e]
  have : (HV.tup [.agg [.own a, .own b, .own c], .own d]).ren (pos [a, b, c, d]) = .tup [.agg [.own 0, .own 1, .own 2], .own 3] := by
   simp [HV.ren, pos, hab, hac, hbc, had, hbd, hcd]
  rw [this]; exact q
theorem filter_take_succ {α : Type} (f : α → Bool) {l : List α} {i : Nat} (h : i < l.length) : (l.take (i + 1)).filter f = (l.take i).filter f ++ (if f l[i] = true then [l[i]] else []) := by
 rw [List.take_succ_eq_append_getElem h, List.filter_append]
 congr 1
 cases e : f l[i] <;> simp [e]
end Go.Tr
namespace Go.Proofs.YtkonlklieacjoaaDoor
open Go Go.Eng Go.RowKit Go.Tr
set_option maxHeartbeats 16000000 in
theorem plan_H (i0 j0 k0 : Int) (L : List Chg) (T : Tri) (hT : Tree3 T) (hL : L.length ≤ 1048576) (hs : ∀ c ∈ L, c.p.size ≤ 1048576) : HFun Tryd.prog 42 [recH i0 j0 k0 L, triH T] (fun h st => h = .tup [.agg [.own 0, .own 1, .own 2], .own 3] ∧ st = triS (undoP L T).1 0 1 2 ++ [(3, rowS (sortT (undoP L T).2))]) := by
 refine hfun (N := 58) Tryd.func42 rfl Tryd.ntmps42 Tryd.results42 (by simp) ?_
 have hr : ∀ i, i < 3 → rise (tr T i) := fun i _ => (hT.tr i).ri
 have hl : ∀ i, i < 3 → (tr T i).length ≤ 1048576 := fun i _ => by have := (hT.tr i).len; omega
 obtain ⟨W, hW⟩ : ∃ W, undoP L T = W := ⟨_, rfl⟩
 rw [hW]
 have hW1 : (planS (L.filter fun c => ripe c T) T).1 = W.1 := by rw [← hW]; rfl
 have hW2 : (L.filter fun c => !ripe c T).map Chg.p ++ (planS (L.filter fun c => ripe c T) T).2 = W.2 := by rw [← hW]; rfl
 clear hW
 (repeat first | refine zE ?_ | refine zA ?_ | refine zC ?_ | refine zB ?_ | refine zD ?_); refine zJ (fun K hK => ?_); simp (maxSteps := 2000000) (disch := omega) only [push_cast, ↓Int.cast_ofNat_Int, simprocAttr, Int.toNat_natCast]; refine hK _ ?_; clear hK K
 (repeat first | refine zE ?_ | refine zA ?_ | refine zC ?_ | refine zB ?_ | refine zD ?_); refine zJ (fun K hK => ?_); simp (maxSteps := 2000000) (disch := omega) only [push_cast, ↓Int.cast_ofNat_Int, simprocAttr, Int.toNat_natCast]; refine hK _ ?_; clear hK K
 refine HW_ownS 5 9000 9 1 rfl (by simp only [kill_eq, row_eq, rep_eq, ekill_nil, ekill_cons, skill_nil, skill_cons, hkill_v, hkill_lst, hkill_own, hkill_ptr, hkill_vw, hkill_agg, hkill_tup, hkill_junk, rkill_sl, rkill_bx, rkill_hl, only_eq, hrep_nil, hrep_cons, Nat.reduceBEq, Nat.reduceEqDiff, reduceIte, cond_true, cond_false, List.map_cons, List.map_nil]; exact rfl) ?_
 (repeat first | refine zE ?_ | refine zA ?_ | refine zC ?_ | refine zB ?_ | refine zD ?_); refine zJ (fun K hK => ?_); simp (maxSteps := 2000000) (disch := omega) only [push_cast, ↓Int.cast_ofNat_Int, simprocAttr, Int.toNat_natCast, chs_len]; refine hK _ ?_; clear hK K
 (repeat first | refine zE ?_ | refine zA ?_ | refine zC ?_ | refine zB ?_ | refine zD ?_)
 refine HW_loop (fun x : Nat × List Chg × List ByteArray => ⟨[(3, .ptr 24 3 0 0), (4, .ptr 32 3 0 0), (5, .own 9000), (6, .own 88), (13, .lst false (chs L)), (14, .v (.int .i64 L.length)), (15, .v (.int .i64 x.1))], [(24, .bx true 53 (triL T)), (32, .bx true 53 [.v (.slice none 0 0), .v (.slice none 0 0), .v (.slice none 0 0)]), (88, rowC x.2.1), (9000, rowS x.2.2)]⟩) (fun x => x.1 ≤ L.length ∧ x.2.1 = (L.take x.1).filter (fun c => ripe c T) ∧ x.2.2 = ((L.take x.1).filter (fun c => !ripe c T)).map Chg.p) (fun x => L.length - x.1) [3, 4, 5, 6, 13, 14, 15] [24, 32, 88, 9000] (0, [], []) (by simp only [zZ, zR, zP, zQ, zN, zS, zM, zX, zU, Nat.reduceEqDiff, reduceIte]; try rfl) ⟨Nat.zero_le _, rfl, rfl⟩ ?_
 rintro ⟨i, R, s⟩ ⟨hi, hR, hS⟩
 dsimp only at hi hR hS
 have hRl : R.length ≤ i := by
  rw [hR]
  have := List.length_filter_le (fun c => ripe c T) (L.take i)
  rw [List.length_take] at this
  omega
 have hSl : s.length ≤ i := by
  rw [hS, List.length_map]
  have := List.length_filter_le (fun c => !ripe c T) (L.take i)
  rw [List.length_take] at this
  omega
 by_cases hlt : i < L.length
 ·(repeat first | refine zE ?_ | refine zA ?_ | refine zC ?_ | refine zB ?_ | refine zD ?_); refine zJ (fun K hK => ?_); simp (maxSteps := 2000000) (disch := omega) only [push_cast, ↓Int.cast_ofNat_Int, simprocAttr, Int.toNat_natCast]; refine hK _ ?_; clear hK K
  (repeat first | refine zE ?_ | refine zA ?_ | refine zC ?_ | refine zB ?_ | refine zD ?_)
  refine yD rfl ?_
  (repeat first | refine zK ?_ | refine zG ?_ | refine zH ?_ | refine zF rfl ?_ | refine zL ?_ | refine zB ?_ | refine zE ?_ | refine zA ?_ | refine zC ?_ | refine zT ?_ | refine zW ?_)
  (repeat first | refine zE ?_ | refine zA ?_ | refine zC ?_ | refine zB ?_ | refine zD ?_); refine zJ (fun K hK => ?_); simp (maxSteps := 2000000) (disch := omega) only [push_cast, ↓Int.cast_ofNat_Int, simprocAttr, Int.toNat_natCast, chs_len, chs_wid, chs_get hlt]; refine hK _ ?_; clear hK K
  (repeat first | refine zE ?_ | refine zA ?_ | refine zC ?_ | refine zB ?_ | refine zD ?_)
  have c47 := ripe_H L[i] T hr hl
  have f1 := filter_take_succ (fun c => ripe c T) hlt
  have f2 := filter_take_succ (fun c => !ripe c T) hlt
  rw [← hR] at f1
  have f3 := congrArg (List.map Chg.p) f2
  rw [List.map_append, ← hS] at f3
  (repeat first | refine zE ?_ | refine zA ?_ | refine zC ?_ | refine zB ?_ | refine zD ?_)
  cases hrp : ripe L[i] T with
  | true =>
   rw [hrp] at c47 f1 f3
   simp only [if_true, Bool.not_true, Bool.false_eq_true, if_false, List.map_nil, List.append_nil] at f1 f3
   (repeat first | refine zE ?_ | refine zA ?_ | refine zC ?_ | refine zB ?_ | refine zD ?_); refine zJ (fun K hK => ?_); simp (maxSteps := 2000000) (disch := omega) only [push_cast, ↓Int.cast_ofNat_Int, simprocAttr, Int.toNat_natCast]
   refine hatv cl47 c47 (.cons (lend_chg L[i]) (.cons (lend_tri (lendL (yT _)) (lendL (yT _)) (lendL (yT _))) .nil)) ?_
   with_reducible refine hstop ?_; simp (maxSteps := 2000000) (disch := omega) only [push_cast, ↓Int.cast_ofNat_Int, simprocAttr, Int.toNat_natCast]
   refine hK _ ?_; clear hK K
   refine yD rfl ?_
   (repeat first | refine zE ?_ | refine zA ?_ | refine zC ?_ | refine zB ?_ | refine zD ?_); refine zJ (fun K hK => ?_); simp (maxSteps := 2000000) (disch := omega) only [push_cast, ↓Int.cast_ofNat_Int, simprocAttr, Int.toNat_natCast, chs_len, chs_snoc]; (repeat refine ⟨by first | omega | decide | ((repeat' apply And.intro) <;> first | omega | decide), ?_⟩); refine hK _ ?_; clear hK K
   (repeat first | refine zK ?_ | refine zG ?_ | refine zH ?_ | refine zF rfl ?_ | refine zL ?_ | refine zB ?_ | refine zE ?_ | refine zA ?_ | refine zC ?_ | refine zT ?_ | refine zW ?_)
   (repeat first | refine zE ?_ | refine zA ?_ | refine zC ?_ | refine zB ?_ | refine zD ?_); refine zJ (fun K hK => ?_); simp (maxSteps := 2000000) (disch := omega) only [push_cast, ↓Int.cast_ofNat_Int, simprocAttr, Int.toNat_natCast]; refine hK _ ?_; clear hK K
   (repeat first | refine zK ?_ | refine zG ?_ | refine zH ?_ | refine zF rfl ?_ | refine zL ?_ | refine zB ?_ | refine zE ?_ | refine zA ?_ | refine zC ?_ | refine zT ?_ | refine zW ?_)
   exact ⟨(i + 1, R ++ [L[i]], s), by simp only [zZ, zR, zP, zQ, zN, zS, zM, zX, zU, Nat.reduceEqDiff, reduceIte]; try rfl, ⟨hlt, f1.symm, f3.symm⟩, by dsimp only; omega⟩
  | false =>
   rw [hrp] at c47 f1 f3
   simp only [if_true, Bool.not_false, Bool.false_eq_true, if_false, List.map_cons, List.map_nil, List.append_nil] at f1 f3
   (repeat first | refine zE ?_ | refine zA ?_ | refine zC ?_ | refine zB ?_ | refine zD ?_); refine zJ (fun K hK => ?_); simp (maxSteps := 2000000) (disch := omega) only [push_cast, ↓Int.cast_ofNat_Int, simprocAttr, Int.toNat_natCast]
   refine hatv cl47 c47 (.cons (lend_chg L[i]) (.cons (lend_tri (lendL (yT _)) (lendL (yT _)) (lendL (yT _))) .nil)) ?_
   with_reducible refine hstop ?_; simp (maxSteps := 2000000) (disch := omega) only [push_cast, ↓Int.cast_ofNat_Int, simprocAttr, Int.toNat_natCast]
   refine hK _ ?_; clear hK K
   refine yC rfl ?_
   (repeat first | refine zE ?_ | refine zA ?_ | refine zC ?_ | refine zB ?_ | refine zD ?_); refine zJ (fun K hK => ?_); simp (maxSteps := 2000000) (disch := omega) only [push_cast, ↓Int.cast_ofNat_Int, simprocAttr, Int.toNat_natCast, strs_len, strs_snoc]; (repeat refine ⟨by first | omega | decide | ((repeat' apply And.intro) <;> first | omega | decide), ?_⟩); refine hK _ ?_; clear hK K
   (repeat first | refine zK ?_ | refine zG ?_ | refine zH ?_ | refine zF rfl ?_ | refine zL ?_ | refine zB ?_ | refine zE ?_ | refine zA ?_ | refine zC ?_ | refine zT ?_ | refine zW ?_)
   (repeat first | refine zE ?_ | refine zA ?_ | refine zC ?_ | refine zB ?_ | refine zD ?_); refine zJ (fun K hK => ?_); simp (maxSteps := 2000000) (disch := omega) only [push_cast, ↓Int.cast_ofNat_Int, simprocAttr, Int.toNat_natCast]; refine hK _ ?_; clear hK K
   (repeat first | refine zK ?_ | refine zG ?_ | refine zH ?_ | refine zF rfl ?_ | refine zL ?_ | refine zB ?_ | refine zE ?_ | refine zA ?_ | refine zC ?_ | refine zT ?_ | refine zW ?_)
   exact ⟨(i + 1, R, s ++ [L[i].p]), by simp only [zZ, zR, zP, zQ, zN, zS, zM, zX, zU, Nat.reduceEqDiff, reduceIte]; try rfl, ⟨hlt, f1.symm, f3.symm⟩, by dsimp only; omega⟩
 ·have hie : i = L.length := by omega
  subst hie
  rw [List.take_length] at hR hS
  (repeat first | refine zE ?_ | refine zA ?_ | refine zC ?_ | refine zB ?_ | refine zD ?_); refine zJ (fun K hK => ?_); simp (maxSteps := 2000000) (disch := omega) only [push_cast, ↓Int.cast_ofNat_Int, simprocAttr, Int.toNat_natCast]; refine hK _ ?_; clear hK K
  (repeat first | refine zE ?_ | refine zA ?_ | refine zC ?_ | refine zB ?_ | refine zD ?_)
  refine yC rfl ?_
  (repeat first | refine zK ?_ | refine zG ?_ | refine zH ?_ | refine zF rfl ?_ | refine zL ?_ | refine zB ?_ | refine zE ?_ | refine zA ?_ | refine zC ?_ | refine zT ?_ | refine zW ?_)
  refine yB [3, 4, 5, 6] [24, 32, 88, 9000] (by simp only [zZ, zR, zP, zQ, zN, zS, zM, zX, zU, Nat.reduceEqDiff, reduceIte]; exact rfl) ?_
  have hsR : ∀ c ∈ R, c.p.size ≤ 1048576 := fun c hc => hs c (by rw [hR] at hc; exact (List.mem_filter.1 hc).1)
  rw [← hR] at hW1 hW2
  rw [← hS] at hW2
  clear hR hS
  (repeat first | refine zE ?_ | refine zA ?_ | refine zC ?_ | refine zB ?_ | refine zD ?_)
  refine HW_loop (fun x : List Chg × List ByteArray => ⟨[(3, .ptr 24 3 0 0), (4, .ptr 32 3 0 0), (5, .own 9000), (6, .own 88)], [(24, .bx true 53 (triL T)), (32, .bx true 53 [.v (.slice none 0 0), .v (.slice none 0 0), .v (.slice none 0 0)]), (88, rowC x.1), (9000, rowS x.2)]⟩) (fun x => (x.1.length ≤ 1048576 ∧ x.1.length + x.2.length ≤ 2097152) ∧ (∀ c ∈ x.1, c.p.size ≤ 1048576) ∧ (planS x.1 T).1 = W.1 ∧ x.2 ++ (planS x.1 T).2 = W.2) (fun x => x.1.length) [3, 4, 5, 6] [24, 32, 88, 9000] (R, s) (by simp only [zZ, zR, zP, zQ, zN, zS, zM, zX, zU, Nat.reduceEqDiff, reduceIte]; try rfl) ⟨⟨by dsimp only; omega, by dsimp only; omega⟩, hsR, hW1, hW2⟩ ?_
  clear hW1 hW2 hsR hRl hSl
  rintro ⟨R, s⟩ ⟨⟨hRl, hl2⟩, hsR, hW1, hW2⟩
  dsimp only at hRl hl2 hsR hW1 hW2
  (repeat first | refine zE ?_ | refine zA ?_ | refine zC ?_ | refine zB ?_ | refine zD ?_); refine zJ (fun K hK => ?_); simp (maxSteps := 2000000) (disch := omega) only [push_cast, ↓Int.cast_ofNat_Int, simprocAttr, Int.toNat_natCast]
  refine hat 280 cl71 (back_H R T hT (by omega) hsR) (.cons (lendO (chs_old _) rfl) (.cons (lend_tri (lendL (yT _)) (lendL (yT _)) (lendL (yT _))) .nil)) ?_
  rintro _ _ ⟨U, q, rfl, rfl, hq⟩
  with_reducible refine hstop ?_; simp (maxSteps := 2000000) (disch := omega) only [push_cast, ↓Int.cast_ofNat_Int, simprocAttr, Int.toNat_natCast]
  refine hK _ ?_; clear hK K
  cases hb : backS R T with
  | ok V =>
   rw [hb] at hq
   obtain ⟨rfl, rfl⟩ := hq
   rw [planS_ok hb] at hW1 hW2
   simp only [List.append_nil] at hW1 hW2
   subst hW1
   subst hW2
   (repeat first | refine zE ?_ | refine zA ?_ | refine zC ?_ | refine zB ?_ | refine zD ?_); refine zJ (fun K hK => ?_); simp (maxSteps := 2000000) (disch := omega) only [push_cast, ↓Int.cast_ofNat_Int, simprocAttr, Int.toNat_natCast]; refine hK _ ?_; clear hK K
   (repeat first | refine zE ?_ | refine zA ?_ | refine zC ?_ | refine zB ?_ | refine zD ?_)
   refine yD rfl ?_
   (repeat first | refine zE ?_ | refine zA ?_ | refine zC ?_ | refine zB ?_ | refine zD ?_); refine zJ (fun K hK => ?_); simp (maxSteps := 2000000) (disch := omega) only [push_cast, ↓Int.cast_ofNat_Int, simprocAttr, Int.toNat_natCast]; refine hK _ ?_; clear hK K
   (repeat first | refine zK ?_ | refine zG ?_ | refine zH ?_ | refine zF rfl ?_ | refine zL ?_ | refine zB ?_ | refine zE ?_ | refine zA ?_ | refine zC ?_ | refine zT ?_ | refine zW ?_)
   refine yB [4, 5] [32, 280, 281, 282, 9000] (by simp only [zZ, zR, zP, zQ, zN, zS, zM, zX, zU, Nat.reduceEqDiff, reduceIte]; exact rfl) ?_
   have hsl : W.2.length ≤ 4194304 := by omega
   generalize W.1 = U at *
   generalize W.2 = s at *
   (repeat first | refine zE ?_ | refine zA ?_ | refine zC ?_ | refine zB ?_ | refine zD ?_); refine zJ (fun K hK => ?_); simp (maxSteps := 2000000) (disch := omega) only [push_cast, ↓Int.cast_ofNat_Int, simprocAttr, Int.toNat_natCast]
   refine sortT_at hsl rfl ?_
   with_reducible refine hstop ?_; simp (maxSteps := 2000000) (disch := omega) only [push_cast, ↓Int.cast_ofNat_Int, simprocAttr, Int.toNat_natCast]
   refine hK _ ?_; clear hK K
   (repeat first | refine zE ?_ | refine zA ?_ | refine zC ?_ | refine zB ?_ | refine zD ?_); refine zJ (fun K hK => ?_); simp (maxSteps := 2000000) (disch := omega) only [push_cast, ↓Int.cast_ofNat_Int, simprocAttr, Int.toNat_natCast]; refine hK _ ?_; clear hK K
   (repeat first | refine zK ?_ | refine zG ?_ | refine zH ?_ | refine zF rfl ?_ | refine zL ?_ | refine zB ?_ | refine zE ?_ | refine zA ?_ | refine zC ?_ | refine zT ?_ | refine zW ?_)
   simp (maxSteps := 2000000) (disch := omega) only [yA, yM, yH, yE, resH_cell, resC_go, yK, yJ, push_cast, ↓Int.cast_ofNat_Int, Nat.reduceBEq, Nat.reduceAdd, Nat.reduceLT, Nat.reduceEqDiff, reduceIte, reduceCtorEq, Nat.reduceLeDiff, Nat.reduceSub, List.reduceReplicate, Nat.reduceMul, Int.reduceToNat, Int.toNat_natCast, Nat.reducePow, reduceIte]
   exact hres_trio rfl rfl rfl rfl (by decide) (by decide) (by decide) (by decide) (by decide) (by decide) ⟨rfl, rfl⟩
  | error j =>
   rw [hb] at hq
   dsimp only at hq
   subst hq
   have hj := backS_lt hb
   rw [planS_err hb] at hW1 hW2
   dsimp only at hW1 hW2
   have hdl : (R.eraseIdx j).length = R.length - 1 := by rw [List.length_eraseIdx, if_pos hj]
   have hgD : (R.getD j default).p = R[j].p := by simp [List.getD_eq_getElem?_getD, hj]
   rw [hgD] at hW2
   (repeat first | refine zE ?_ | refine zA ?_ | refine zC ?_ | refine zB ?_ | refine zD ?_); refine zJ (fun K hK => ?_); simp (maxSteps := 2000000) (disch := omega) only [push_cast, ↓Int.cast_ofNat_Int, simprocAttr, Int.toNat_natCast]; refine hK _ ?_; clear hK K
   (repeat first | refine zE ?_ | refine zA ?_ | refine zC ?_ | refine zB ?_ | refine zD ?_)
   refine yC rfl ?_
   (repeat first | refine zE ?_ | refine zA ?_ | refine zC ?_ | refine zB ?_ | refine zD ?_)
   (repeat first | refine zE ?_ | refine zA ?_ | refine zC ?_ | refine zB ?_ | refine zD ?_); refine zJ (fun K hK => ?_); simp (maxSteps := 2000000) (disch := omega) only [push_cast, ↓Int.cast_ofNat_Int, simprocAttr, Int.toNat_natCast, chs_len, chs_wid, chs_get hj, strs_len, strs_snoc]; (repeat refine ⟨by first | omega | decide | ((repeat' apply And.intro) <;> first | omega | decide), ?_⟩); refine hK _ ?_; clear hK K
   (repeat first | refine zE ?_ | refine zA ?_ | refine zC ?_ | refine zB ?_ | refine zD ?_); refine zJ (fun K hK => ?_); simp (maxSteps := 2000000) (disch := omega) only [push_cast, ↓Int.cast_ofNat_Int, simprocAttr, Int.toNat_natCast]
   refine hatS 424 [88] cl72 (deleteC_H R j hj) rfl (by decide) (by decide) (by simp only [push_cast, pos_nil, yF, Option.getD_some, Bool.or_true, Bool.or_false, Bool.and_true, Bool.and_false, Option.map_some, Option.map_none, Nat.zero_add, simprocAttr, Int.toNat_natCast]; try rfl) (by simp only [push_cast, pos_nil, yF, Option.getD_some, Bool.or_true, Bool.or_false, Bool.and_true, Bool.and_false, Option.map_some, Option.map_none, Nat.zero_add, simprocAttr, Int.toNat_natCast]; try rfl) ?_
   rintro _ _ ⟨rfl, rfl⟩
   refine hstop ?_; simp (maxSteps := 2000000) (disch := omega) only [push_cast, ↓Int.cast_ofNat_Int, simprocAttr, Int.toNat_natCast, Option.getD_some, Bool.or_true, Bool.or_false, Bool.and_true, Bool.and_false, Nat.zero_add, pos_nil, yF, Option.map_some, Option.map_none]
   refine hK _ ?_; clear hK K
   (repeat first | refine zK ?_ | refine zG ?_ | refine zH ?_ | refine zF rfl ?_ | refine zL ?_ | refine zB ?_ | refine zE ?_ | refine zA ?_ | refine zC ?_ | refine zT ?_ | refine zW ?_)
   exact ⟨(R.eraseIdx j, s ++ [R[j].p]), by simp only [zZ, zR, zP, zQ, zN, zS, zM, zX, zU, Nat.reduceEqDiff, reduceIte]; try rfl, ⟨⟨by dsimp only; omega, by simp only [List.length_append, List.length_singleton]; omega⟩, fun c hc => hsR c (List.mem_of_mem_eraseIdx hc), hW1, by rw [List.append_assoc]; exact hW2⟩, by dsimp only; omega⟩
end Go.Proofs.YtkonlklieacjoaaDoor
