/-
  undo.Plan.
-/
import Derived.Test.YtkonlklieacjoaaDoorUbk
import Derived.Test.YtkonlklieacjoaaDoorUdl
import Derived.Test.YtkonlklieacjoaaDoorUch
set_option linter.unusedSimpArgs false
set_option linter.unusedVariables false
set_option maxRecDepth 20000
namespace Go.Tr
open Go Go.Eng Go.RowKit
theorem zEo {S : HS} {a b c d : Nat} {U : Tri} {l : List ByteArray} {Q : HV → aD → Prop} (h0 : rlk S.st a = some (aY U.1)) (h1 : rlk S.st b = some (aY U.2.1)) (h2 : rlk S.st c = some (aY U.2.2)) (h3 : rlk S.st d = some (iE l)) (hab : a ≠ b) (hac : a ≠ c) (hbc : b ≠ c) (had : a ≠ d) (hbd : b ≠ d) (hcd : c ≠ d)
  (q : Q (.tup [.agg [.own 0, .own 1, .own 2], .own 3]) (zDa U 0 1 2 ++ [(3, iE l)])) : qAn S (.tup [.agg [.own a, .own b, .own c], .own d]) Q := by
 refine ⟨[a, b, c, d], by simp, by simp [dup, hab.symm, hac.symm, hbc.symm, hab, hac, hbc, had, had.symm, hbd, hbd.symm, hcd, hcd.symm], .tup fun x hx => ?_, fun id hid r hr => ?_, ?_⟩
 ·simp only [List.mem_cons, List.not_mem_nil, or_false] at hx
  rcases hx with rfl | rfl
  ·refine .agg fun y hy => ?_
   simp only [List.mem_cons, List.not_mem_nil, or_false] at hy
   rcases hy with rfl | rfl | rfl <;> exact .own _
  ·exact .own _
 ·simp only [List.mem_cons, List.not_mem_nil, or_false] at hid
  rcases hid with rfl | rfl | rfl | rfl
  ·rw [h0] at hr; cases hr; exact ⟨rfl, aV _⟩
  ·rw [h1] at hr; cases hr; exact ⟨rfl, aV _⟩
  ·rw [h2] at hr; cases hr; exact ⟨rfl, aV _⟩
  ·rw [h3] at hr; cases hr; exact ⟨rfl, oH _⟩
 ·have e : gE (pos [a, b, c, d]) S.st 0 [a, b, c, d] = zDa U 0 1 2 ++ [(3, iE l)] := by
   simp only [gE, h0, h1, h2, h3, Row.ren]; rfl
  rw [e]
  have : (HV.tup [.agg [.own a, .own b, .own c], .own d]).ren (pos [a, b, c, d]) = .tup [.agg [.own 0, .own 1, .own 2], .own 3] := by
   simp [HV.ren, pos, hab, hac, hbc, had, hbd, hcd]
  rw [this]; exact q
theorem lW {α : Type} (f : α → Bool) {l : List α} {i : Nat} (h : i < l.length) : (l.take (i + 1)).filter f = (l.take i).filter f ++ (if f l[i] = true then [l[i]] else []) := by
 rw [List.take_succ_eq_append_getElem h, List.filter_append]
 congr 1
 cases e : f l[i] <;> simp [e]
end Go.Tr
namespace Go.Proofs.YtkonlklieacjoaaDoor
open Go Go.Eng Go.RowKit Go.Tr
set_option maxHeartbeats 16000000 in
theorem qYh (i0 j0 k0 : Int) (L : List Chg) (T : Tri) (hT : Tree3 T) (hL : L.length ≤ 1048576) (hs : ∀ c ∈ L, c.p.size ≤ 1048576) : HFun Tryd.prog 42 [qYe i0 j0 k0 L, uY T] (fun h st => h = .tup [.agg [.own 0, .own 1, .own 2], .own 3] ∧ st = zDa (jE L T).1 0 1 2 ++ [(3, iE (nJ (jE L T).2))]) := by
 refine eK (N := 58) Tryd.func42 rfl Tryd.ntmps42 Tryd.results42 (by simp) ?_
 have hr : ∀ i, i < 3 → gU (tr T i) := fun i _ => (hT.tr i).ri
 have hl : ∀ i, i < 3 → (tr T i).length ≤ 1048576 := fun i _ => by have := (hT.tr i).len; omega
 obtain ⟨W, hW⟩ : ∃ W, jE L T = W := ⟨_, rfl⟩
 rw [hW]
 have hW1 : (lK (L.filter fun c => eF c T) T).1 = W.1 := by rw [← hW]; rfl
 have hW2 : (L.filter fun c => !eF c T).map Chg.p ++ (lK (L.filter fun c => eF c T) T).2 = W.2 := by rw [← hW]; rfl
 clear hW
 refine zE ?_; refine zJ (fun K hK => ?_); simp (maxSteps := 2000000) (disch := omega) only [push_cast, ↓Int.cast_ofNat_Int, simprocAttr]; refine hK _ ?_; clear hK K
 refine zE ?_; refine zJ (fun K hK => ?_); simp (maxSteps := 2000000) (disch := omega) only [push_cast, ↓Int.cast_ofNat_Int, simprocAttr]; refine hK _ ?_; clear hK K
 refine eD 5 9000 9 1 rfl (by simp only [dR, eZ, fA, cB, bH, aR, aP, cF, aU, aT, aS, cJ, cA, bZ, bG, bC, bD, cQ, cD, dA, cP, Nat.reduceBEq, Nat.reduceEqDiff, reduceIte, cond_true, cond_false, List.map_cons, List.map_nil]; exact rfl) ?_
 refine zE ?_; refine zE ?_; refine zJ (fun K hK => ?_); simp (maxSteps := 2000000) (disch := omega) only [push_cast, ↓Int.cast_ofNat_Int, simprocAttr, aJ]; refine hK _ ?_; clear hK K
 refine zA ?_; refine zD ?_
 refine bM (fun x : Nat × List Chg × List ByteArray => ⟨[(3, .ptr 24 3 0 0), (4, .ptr 32 3 0 0), (5, .own 9000), (6, .own 88), (13, .lst false (chs L)), (14, .v (.int .i64 L.length)), (15, .v (.int .i64 x.1))], [(24, .bx true 53 (iR T)), (32, .bx true 53 [.v (.slice none 0 0), .v (.slice none 0 0), .v (.slice none 0 0)]), (88, zDo x.2.1), (9000, iE x.2.2)]⟩) (fun x => x.1 ≤ L.length ∧ x.2.1 = (L.take x.1).filter (fun c => eF c T) ∧ x.2.2 = ((L.take x.1).filter (fun c => !eF c T)).map Chg.p) (fun x => L.length - x.1) [3, 4, 5, 6, 13, 14, 15] [24, 32, 88, 9000] (0, [], []) (by simp only [zZ, zR, zP, zQ, zN, zS, zM, zX, zU, Nat.reduceEqDiff, reduceIte]; try rfl) ⟨Nat.zero_le _, rfl, rfl⟩ ?_
 rintro ⟨i, R, s⟩ ⟨hi, hR, hS⟩
 dsimp only at hi hR hS
 have hRl : R.length ≤ i := by
  rw [hR]
  have := List.length_filter_le (fun c => eF c T) (L.take i)
  rw [List.length_take] at this
  omega
 have hSl : s.length ≤ i := by
  rw [hS, List.length_map]
  have := List.length_filter_le (fun c => !eF c T) (L.take i)
  rw [List.length_take] at this
  omega
 by_cases hlt : i < L.length
 ·refine zE ?_; refine zJ (fun K hK => ?_); simp (maxSteps := 2000000) (disch := omega) only [push_cast, ↓Int.cast_ofNat_Int, simprocAttr]; refine hK _ ?_; clear hK K
  refine zE ?_
  refine yD rfl ?_
  refine zC ?_; refine zE ?_
  refine zD ?_; refine zE ?_; refine zJ (fun K hK => ?_); simp (maxSteps := 2000000) (disch := omega) only [push_cast, ↓Int.cast_ofNat_Int, simprocAttr, aJ, bF, bJ hlt]; refine hK _ ?_; clear hK K
  refine zE ?_
  have c47 := zF3 L[i] T hr hl
  have f1 := lW (fun c => eF c T) hlt
  have f2 := lW (fun c => !eF c T) hlt
  rw [← hR] at f1
  have f3 := congrArg (List.map Chg.p) f2
  rw [List.map_append, ← hS] at f3
  skip
  cases hrp : eF L[i] T with
  | true =>
   rw [hrp] at c47 f1 f3
   simp only [if_true, Bool.not_true, Bool.false_eq_true, if_false, List.map_nil, List.append_nil] at f1 f3
   refine zJ (fun K hK => ?_); simp (maxSteps := 2000000) (disch := omega) only [push_cast, ↓Int.cast_ofNat_Int, simprocAttr]
   refine bV zN8 c47 (.cons (wH L[i]) (.cons (eX (aN (yT _)) (aN (yT _)) (aN (yT _))) .nil)) ?_
   with_reducible refine aB ?_; simp (maxSteps := 2000000) (disch := omega) only [push_cast, ↓Int.cast_ofNat_Int, simprocAttr]
   refine hK _ ?_; clear hK K
   refine yD rfl ?_
   refine zJ (fun K hK => ?_); simp (maxSteps := 2000000) (disch := omega) only [push_cast, ↓Int.cast_ofNat_Int, simprocAttr, aJ, qXi]; (repeat refine ⟨by first | omega | decide | ((repeat' apply And.intro) <;> first | omega | decide), ?_⟩); refine hK _ ?_; clear hK K
   refine zB ?_; refine zA ?_
   refine zJ (fun K hK => ?_); simp (maxSteps := 2000000) (disch := omega) only [push_cast, ↓Int.cast_ofNat_Int, simprocAttr]; refine hK _ ?_; clear hK K
   refine zA ?_
   exact ⟨(i + 1, R ++ [L[i]], s), by simp only [zZ, zR, zP, zQ, zN, zS, zM, zX, zU, Nat.reduceEqDiff, reduceIte]; try rfl, ⟨hlt, f1.symm, f3.symm⟩, by dsimp only; omega⟩
  | false =>
   rw [hrp] at c47 f1 f3
   simp only [if_true, Bool.not_false, Bool.false_eq_true, if_false, List.map_cons, List.map_nil, List.append_nil] at f1 f3
   refine zJ (fun K hK => ?_); simp (maxSteps := 2000000) (disch := omega) only [push_cast, ↓Int.cast_ofNat_Int, simprocAttr]
   refine bV zN8 c47 (.cons (wH L[i]) (.cons (eX (aN (yT _)) (aN (yT _)) (aN (yT _))) .nil)) ?_
   with_reducible refine aB ?_; simp (maxSteps := 2000000) (disch := omega) only [push_cast, ↓Int.cast_ofNat_Int, simprocAttr]
   refine hK _ ?_; clear hK K
   refine yC rfl ?_
   refine zJ (fun K hK => ?_); simp (maxSteps := 2000000) (disch := omega) only [push_cast, ↓Int.cast_ofNat_Int, simprocAttr, aX, iS]; (repeat refine ⟨by first | omega | decide | ((repeat' apply And.intro) <;> first | omega | decide), ?_⟩); refine hK _ ?_; clear hK K
   refine zB ?_; refine zA ?_
   refine zJ (fun K hK => ?_); simp (maxSteps := 2000000) (disch := omega) only [push_cast, ↓Int.cast_ofNat_Int, simprocAttr]; refine hK _ ?_; clear hK K
   refine zA ?_
   exact ⟨(i + 1, R, s ++ [L[i].p]), by simp only [zZ, zR, zP, zQ, zN, zS, zM, zX, zU, Nat.reduceEqDiff, reduceIte]; try rfl, ⟨hlt, f1.symm, f3.symm⟩, by dsimp only; omega⟩
 ·have hie : i = L.length := by omega
  subst hie
  rw [List.take_length] at hR hS
  refine zE ?_; refine zJ (fun K hK => ?_); simp (maxSteps := 2000000) (disch := omega) only [push_cast, ↓Int.cast_ofNat_Int, simprocAttr]; refine hK _ ?_; clear hK K
  refine zE ?_
  refine yC rfl ?_
  refine zT ?_; refine zG ?_; refine zG ?_; refine zH ?_; refine zE ?_
  refine yB [3, 4, 5, 6] [24, 32, 88, 9000] (by simp only [zZ, zR, zP, zQ, zN, zS, zM, zX, zU, Nat.reduceEqDiff, reduceIte]; exact rfl) ?_
  have hsR : ∀ c ∈ R, c.p.size ≤ 1048576 := fun c hc => hs c (by rw [hR] at hc; exact (List.mem_filter.1 hc).1)
  rw [← hR] at hW1 hW2
  rw [← hS] at hW2
  clear hR hS
  refine zD ?_
  refine bM (fun x : List Chg × List ByteArray => ⟨[(3, .ptr 24 3 0 0), (4, .ptr 32 3 0 0), (5, .own 9000), (6, .own 88)], [(24, .bx true 53 (iR T)), (32, .bx true 53 [.v (.slice none 0 0), .v (.slice none 0 0), .v (.slice none 0 0)]), (88, zDo x.1), (9000, iE x.2)]⟩) (fun x => (x.1.length ≤ 1048576 ∧ x.1.length + x.2.length ≤ 2097152) ∧ (∀ c ∈ x.1, c.p.size ≤ 1048576) ∧ (lK x.1 T).1 = W.1 ∧ x.2 ++ (lK x.1 T).2 = W.2) (fun x => x.1.length) [3, 4, 5, 6] [24, 32, 88, 9000] (R, s) (by simp only [zZ, zR, zP, zQ, zN, zS, zM, zX, zU, Nat.reduceEqDiff, reduceIte]; try rfl) ⟨⟨by dsimp only; omega, by dsimp only; omega⟩, hsR, hW1, hW2⟩ ?_
  clear hW1 hW2 hsR hRl hSl
  rintro ⟨R, s⟩ ⟨⟨hRl, hl2⟩, hsR, hW1, hW2⟩
  dsimp only at hRl hl2 hsR hW1 hW2
  refine zD ?_; refine zE ?_; refine zJ (fun K hK => ?_); simp (maxSteps := 2000000) (disch := omega) only [push_cast, ↓Int.cast_ofNat_Int, simprocAttr]
  refine hat 280 zRx (zPg R T hT (by omega) hsR) (.cons (mU (iC _) rfl) (.cons (eX (aN (yT _)) (aN (yT _)) (aN (yT _))) .nil)) ?_
  rintro _ _ ⟨U, q, rfl, rfl, hq⟩
  with_reducible refine aB ?_; simp (maxSteps := 2000000) (disch := omega) only [push_cast, ↓Int.cast_ofNat_Int, simprocAttr]
  refine hK _ ?_; clear hK K
  cases hb : rN R T with
  | ok V =>
   rw [hb] at hq
   obtain ⟨rfl, rfl⟩ := hq
   rw [qUe hb] at hW1 hW2
   simp only [List.append_nil] at hW1 hW2
   subst hW1
   subst hW2
   refine zE ?_; refine zE ?_; refine zJ (fun K hK => ?_); simp (maxSteps := 2000000) (disch := omega) only [push_cast, ↓Int.cast_ofNat_Int, simprocAttr]; refine hK _ ?_; clear hK K
   refine zA ?_
   refine yD rfl ?_
   refine zE ?_; refine zJ (fun K hK => ?_); simp (maxSteps := 2000000) (disch := omega) only [push_cast, ↓Int.cast_ofNat_Int, simprocAttr]; refine hK _ ?_; clear hK K
   refine zA ?_; refine zT ?_; refine zG ?_; refine zF rfl ?_; refine zG ?_; refine zH ?_; refine zE ?_
   refine yB [4, 5] [32, 280, 281, 282, 9000] (by simp only [zZ, zR, zP, zQ, zN, zS, zM, zX, zU, Nat.reduceEqDiff, reduceIte]; exact rfl) ?_
   have hsl : W.2.length ≤ 4194304 := by omega
   generalize W.1 = U at *
   generalize W.2 = s at *
   refine zJ (fun K hK => ?_); simp (maxSteps := 2000000) (disch := omega) only [push_cast, ↓Int.cast_ofNat_Int, simprocAttr]
   refine zFt hsl rfl ?_
   with_reducible refine aB ?_; simp (maxSteps := 2000000) (disch := omega) only [push_cast, ↓Int.cast_ofNat_Int, simprocAttr]
   refine hK _ ?_; clear hK K
   refine zE ?_; refine zJ (fun K hK => ?_); simp (maxSteps := 2000000) (disch := omega) only [push_cast, ↓Int.cast_ofNat_Int, simprocAttr]; refine hK _ ?_; clear hK K
   refine zA ?_; refine zW ?_
   simp (maxSteps := 2000000) (disch := omega) only [yA, yM, yH, yE, aA, aC, yK, yJ, push_cast, ↓Int.cast_ofNat_Int, Nat.reduceBEq, Nat.reduceAdd, Nat.reduceLT, Nat.reduceEqDiff, reduceIte, reduceCtorEq, Nat.reduceLeDiff, Nat.reduceSub, List.reduceReplicate, Nat.reduceMul, Int.reduceToNat, Int.toNat_natCast, Nat.reducePow, reduceIte]
   exact zEo rfl rfl rfl rfl (by decide) (by decide) (by decide) (by decide) (by decide) (by decide) ⟨rfl, rfl⟩
  | error j =>
   rw [hb] at hq
   dsimp only at hq
   subst hq
   have hj := xE hb
   rw [qPe hb] at hW1 hW2
   dsimp only at hW1 hW2
   have hdl : (R.eraseIdx j).length = R.length - 1 := by rw [List.length_eraseIdx, if_pos hj]
   have hgD : (R.getD j default).p = R[j].p := by simp [List.getD_eq_getElem?_getD, hj]
   rw [hgD] at hW2
   refine zE ?_; refine zE ?_; refine zJ (fun K hK => ?_); simp (maxSteps := 2000000) (disch := omega) only [push_cast, ↓Int.cast_ofNat_Int, simprocAttr]; refine hK _ ?_; clear hK K
   refine zA ?_
   refine yC rfl ?_
   refine zC ?_; refine zE ?_
   refine zJ (fun K hK => ?_); simp (maxSteps := 2000000) (disch := omega) only [push_cast, ↓Int.cast_ofNat_Int, simprocAttr, aJ, bF, bJ hj, aX, iS]; (repeat refine ⟨by first | omega | decide | ((repeat' apply And.intro) <;> first | omega | decide), ?_⟩); refine hK _ ?_; clear hK K
   refine zA ?_; refine zJ (fun K hK => ?_); simp (maxSteps := 2000000) (disch := omega) only [push_cast, ↓Int.cast_ofNat_Int, simprocAttr]
   refine zHu 424 [88] zRw (zE0 R j hj) rfl (by decide) (by decide) (by simp only [push_cast, dM, yF, Option.getD_some, Bool.or_true, Bool.or_false, Bool.and_true, Bool.and_false, Option.map_some, Option.map_none, Nat.zero_add, simprocAttr]; try rfl) (by simp only [push_cast, dM, yF, Option.getD_some, Bool.or_true, Bool.or_false, Bool.and_true, Bool.and_false, Option.map_some, Option.map_none, Nat.zero_add, simprocAttr]; try rfl) ?_
   rintro _ _ ⟨rfl, rfl⟩
   refine aB ?_; simp (maxSteps := 2000000) (disch := omega) only [push_cast, ↓Int.cast_ofNat_Int, simprocAttr, Option.getD_some, Bool.or_true, Bool.or_false, Bool.and_true, Bool.and_false, Nat.zero_add, dM, yF, Option.map_some, Option.map_none]
   refine hK _ ?_; clear hK K
   refine zB ?_; refine zA ?_
   exact ⟨(R.eraseIdx j, s ++ [R[j].p]), by simp only [zZ, zR, zP, zQ, zN, zS, zM, zX, zU, Nat.reduceEqDiff, reduceIte]; try rfl, ⟨⟨by dsimp only; omega, by simp only [List.length_append, List.length_singleton]; omega⟩, fun c hc => hsR c (List.mem_of_mem_eraseIdx hc), hW1, by rw [List.append_assoc]; exact hW2⟩, by dsimp only; omega⟩
end Go.Proofs.YtkonlklieacjoaaDoor
