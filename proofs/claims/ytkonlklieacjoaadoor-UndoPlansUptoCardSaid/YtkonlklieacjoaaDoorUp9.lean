/-
  The law UndoPlans.
-/
import Derived.Test.YtkonlklieacjoaaDoorUrp
import Derived.Test.YtkonlklieacjoaaDoorRdd
import Derived.Test.YtkonlklieacjoaaDoorHau
import Derived.Test.YtkonlklieacjoaaDoorBir
import Derived.Test.YtkonlklieacjoaaDoorUpr
set_option linter.unusedSimpArgs false
set_option linter.unusedVariables false
set_option maxRecDepth 20000
namespace Go.Tr
open Go Go.Eng
def vH : Chg := ⟨{ data := #[115, 112, 97, 114, 101] }, 0, (0, ByteArray.empty), (0, ByteArray.empty), (0, ByteArray.empty), (0, ByteArray.empty), (0, ByteArray.empty), (0, ByteArray.empty)⟩
theorem zE8 (L : List Chg) : chs L ++ [[FV.v (.string { data := #[115, 112, 97, 114, 101] }), .v (.int .i64 0), .v (.int .i64 0), .v (.string ByteArray.empty), .v (.int .i64 0), .v (.string ByteArray.empty), .v (.int .i64 0), .v (.string ByteArray.empty), .v (.int .i64 0), .v (.string ByteArray.empty), .v (.int .i64 0), .v (.string ByteArray.empty), .v (.int .i64 0), .v (.string ByteArray.empty)]] = chs (L ++ [vH]) := qXi L vH
theorem qEs (L : List Chg) : mT (((chs (L ++ [vH])).drop 0).take L.length) = chs L := by
 rw [List.drop_zero, zJo, List.take_left' rfl, iC]
theorem jY (a : List Ent) : mT (((aH (a ++ [spare])).drop 0).take a.length) = aH a := by
 rw [List.drop_zero, lX, List.take_left' rfl, yT]
end Go.Tr
namespace Go.Proofs.YtkonlklieacjoaaDoor
open Go Go.Eng Go.RowKit Go.Tr
theorem zFe (a b d e f g : List Ent) (n0 n1 n2 n3 n4 n5 n6 : Bool) (h : ∀ i, i < 6 → ([a, b, d, e, f, g].getD i []).length ≤ 1000000000) :
  HFunS Tryd.prog 23 [.own 0] [(0, .hl n0 22 1 [[.own 1], [.own 2], [.own 3], [.own 4], [.own 5], [.own 6]]), (1, .sl n1 68 3 (aH a)), (2, .sl n2 68 3 (aH b)), (3, .sl n3 68 3 (aH d)), (4, .sl n4 68 3 (aH e)), (5, .sl n5 68 3 (aH f)), (6, .sl n6 68 3 (aH g))] (fun h st' => h = .v (.bool true) ∧ st' = []) :=
 zJy (n := 6) (fun i => i + 1) (fun i => [n1, n2, n3, n4, n5, n6].getD i false) (fun i => [a, b, d, e, f, g].getD i []) rfl rfl (fun i hi => by match i, hi with | 0, _ | 1, _ | 2, _ | 3, _ | 4, _ | 5, _ => rfl) (fun i hi => by match i, hi with | 0, _ | 1, _ | 2, _ | 3, _ | 4, _ | 5, _ => rfl) (fun i j _ _ e => by omega) (fun i _ => by omega)
  (fun j h => by match j, h with | 0, h | 1, h | 2, h | 3, h | 4, h | 5, h | 6, h => exact h | j + 7, h => exact h) (by omega) (fun i hi => h i hi)
set_option maxHeartbeats 32000000 in
theorem qTp (i0 j0 k0 : Int) (L : List Chg) (T : Tri) (bT : Big T) (hL : L.length ≤ 1048576) (hs : ∀ c ∈ L, c.p.size ≤ 1048576) : HFun Tryd.prog 9 [qYe i0 j0 k0 L, uY T] (fun h st => h = .v (.bool true)) := by
 refine eK (N := 158) Tryd.func9 rfl Tryd.ntmps9 Tryd.results9 (by simp) ?_
 have cT := zPh T bT.len bT.size
 have cR := zF1 L hL
 refine zE ?_; refine zJ (fun K hK => ?_); simp (maxSteps := 2000000) (disch := omega) only [push_cast, ↓Int.cast_ofNat_Int, simprocAttr]; refine hK _ ?_; clear hK K
 cases hT : zJ3 T with
 | false =>
  rw [hT] at cT
  refine zE ?_; refine zE ?_; refine zJ (fun K hK => ?_); simp (maxSteps := 2000000) (disch := omega) only [push_cast, ↓Int.cast_ofNat_Int, simprocAttr, aJ]
  refine bV qZe oF .nil ?_
  with_reducible refine aB ?_; simp (maxSteps := 2000000) (disch := omega) only [push_cast, ↓Int.cast_ofNat_Int, simprocAttr]
  refine bV zLm cT (.cons (eX (aN (yT _)) (aN (yT _)) (aN (yT _))) .nil) ?_
  with_reducible refine aB ?_; simp (maxSteps := 2000000) (disch := omega) only [push_cast, ↓Int.cast_ofNat_Int, simprocAttr, aJ]
  refine hK _ ?_; clear hK K
  refine yD rfl ?_
  refine zE ?_; refine zJ (fun K hK => ?_); simp (maxSteps := 2000000) (disch := omega) only [push_cast, ↓Int.cast_ofNat_Int, simprocAttr]
  refine bV qZe oF .nil ?_
  with_reducible refine aB ?_; simp (maxSteps := 2000000) (disch := omega) only [push_cast, ↓Int.cast_ofNat_Int, simprocAttr]
  refine hK _ ?_; clear hK K
  refine zA ?_; refine zW ?_; refine zK ?_
  simp only [yA, yM, yH, yE, aA, aC, yK, yJ, zS, zM, Nat.reduceEqDiff, reduceIte, reduceCtorEq]
  exact aK rfl
 | true =>
 rw [hT] at cT
 cases hR : (qNc L && qDu L) with
 | false =>
  rw [hR] at cR
  refine zE ?_; refine zE ?_; refine zJ (fun K hK => ?_); simp (maxSteps := 2000000) (disch := omega) only [push_cast, ↓Int.cast_ofNat_Int, simprocAttr, aJ]
  refine bV qZe oF .nil ?_
  with_reducible refine aB ?_; simp (maxSteps := 2000000) (disch := omega) only [push_cast, ↓Int.cast_ofNat_Int, simprocAttr]
  refine bV zLm cT (.cons (eX (aN (yT _)) (aN (yT _)) (aN (yT _))) .nil) ?_
  with_reducible refine aB ?_; simp (maxSteps := 2000000) (disch := omega) only [push_cast, ↓Int.cast_ofNat_Int, simprocAttr, aJ]
  refine bV zPa cR (.cons (aN (iC _)) .nil) ?_
  with_reducible refine aB ?_; simp (maxSteps := 2000000) (disch := omega) only [push_cast, ↓Int.cast_ofNat_Int, simprocAttr, aJ]
  refine hK _ ?_; clear hK K
  refine yD rfl ?_
  refine zE ?_; refine zJ (fun K hK => ?_); simp (maxSteps := 2000000) (disch := omega) only [push_cast, ↓Int.cast_ofNat_Int, simprocAttr]
  refine bV qZe oF .nil ?_
  with_reducible refine aB ?_; simp (maxSteps := 2000000) (disch := omega) only [push_cast, ↓Int.cast_ofNat_Int, simprocAttr]
  refine hK _ ?_; clear hK K
  refine zA ?_; refine zW ?_; refine zK ?_
  simp only [yA, yM, yH, yE, aA, aC, yK, yJ, zS, zM, Nat.reduceEqDiff, reduceIte, reduceCtorEq]
  exact aK rfl
 | true =>
 rw [hR] at cR
 by_cases h60 : 60 < L.length
 ·have h60' : (60 : Int) < (L.length : Int) := by omega
  refine zE ?_; refine zE ?_; refine zJ (fun K hK => ?_); simp (maxSteps := 2000000) (disch := omega) only [push_cast, ↓Int.cast_ofNat_Int, simprocAttr, aJ]
  refine bV qZe oF .nil ?_
  with_reducible refine aB ?_; simp (maxSteps := 2000000) (disch := omega) only [push_cast, ↓Int.cast_ofNat_Int, simprocAttr]
  refine bV zLm cT (.cons (eX (aN (yT _)) (aN (yT _)) (aN (yT _))) .nil) ?_
  with_reducible refine aB ?_; simp (maxSteps := 2000000) (disch := omega) only [push_cast, ↓Int.cast_ofNat_Int, simprocAttr, aJ]
  refine bV zPa cR (.cons (aN (iC _)) .nil) ?_
  with_reducible refine aB ?_; simp (maxSteps := 2000000) (disch := omega) only [push_cast, ↓Int.cast_ofNat_Int, simprocAttr, aJ]
  refine hK _ ?_; clear hK K
  refine yD rfl ?_
  refine zE ?_; refine zJ (fun K hK => ?_); simp (maxSteps := 2000000) (disch := omega) only [push_cast, ↓Int.cast_ofNat_Int, simprocAttr]
  refine bV qZe oF .nil ?_
  with_reducible refine aB ?_; simp (maxSteps := 2000000) (disch := omega) only [push_cast, ↓Int.cast_ofNat_Int, simprocAttr]
  refine hK _ ?_; clear hK K
  refine zA ?_; refine zW ?_; refine zK ?_
  simp only [yA, yM, yH, yE, aA, aC, yK, yJ, zS, zM, Nat.reduceEqDiff, reduceIte, reduceCtorEq]
  exact aK rfl
 have h60' : ¬ ((60 : Int) < (L.length : Int)) := by omega
 refine zE ?_; refine zE ?_; refine zJ (fun K hK => ?_); simp (maxSteps := 2000000) (disch := omega) only [push_cast, ↓Int.cast_ofNat_Int, simprocAttr, aJ]
 refine bV qZe oF .nil ?_
 with_reducible refine aB ?_; simp (maxSteps := 2000000) (disch := omega) only [push_cast, ↓Int.cast_ofNat_Int, simprocAttr]
 refine bV zLm cT (.cons (eX (aN (yT _)) (aN (yT _)) (aN (yT _))) .nil) ?_
 with_reducible refine aB ?_; simp (maxSteps := 2000000) (disch := omega) only [push_cast, ↓Int.cast_ofNat_Int, simprocAttr, aJ]
 refine bV zPa cR (.cons (aN (iC _)) .nil) ?_
 with_reducible refine aB ?_; simp (maxSteps := 2000000) (disch := omega) only [push_cast, ↓Int.cast_ofNat_Int, simprocAttr, aJ]
 refine hK _ ?_; clear hK K
 refine yC rfl ?_
 refine zC ?_; refine zE ?_
 refine yB [2, 3] [16, 24] (by simp only [zZ, zR, zP, zQ, zN, zS, zM, zX, zU, Nat.reduceEqDiff, reduceIte]; exact rfl) ?_
 have tT := (zJ2 T).1 hT
 obtain ⟨t0, t1, t2⟩ := T
 have b0 : t0.length ≤ 1048576 := bT.len 0 (by decide)
 have b1 : t1.length ≤ 1048576 := bT.len 1 (by decide)
 have b2 : t2.length ≤ 1048576 := bT.len 2 (by decide)
 refine zL1 11 [(2, some 272), (5, some 296), (8, some 320)] [[(16, .bx true 52 (iT i0 j0 k0 L)), (24, .bx true 53 (iR (t0, t1, t2)))], [(272, aY (t0 ++ [spare])), (16, .bx true 52 (iT i0 j0 k0 L)), (24, .bx true 53 (iR (t0, t1, t2)))], [(296, aY (t1 ++ [spare])), (272, aY (t0 ++ [spare])), (16, .bx true 52 (iT i0 j0 k0 L)), (24, .bx true 53 (iR (t0, t1, t2)))], [(320, aY (t2 ++ [spare])), (296, aY (t1 ++ [spare])), (272, aY (t0 ++ [spare])), (16, .bx true 52 (iT i0 j0 k0 L)), (24, .bx true 53 (iR (t0, t1, t2)))]] [(1, 0, 0), (4, 0, 1), (7, 0, 2), (9, 3, 3)] [(10, 5, 40, 53, [.slice none 0 0, .slice none 0 0, .slice none 0 0])] mixed (by kernel_rfl) (by kernel_rfl) (by kernel_rfl) (by repeat' first | exact trivial | refine ⟨⟨rfl, rfl, rfl⟩, by kernel_rfl, rfl, ?_⟩) rfl (fun K hK K1 hK1 => ?_); simp (maxSteps := 2000000) (disch := omega) only [push_cast, ↓Int.cast_ofNat_Int, simprocAttr, Bool.or_false, Bool.false_or, Bool.true_or, Bool.or_true]
 refine qNf 272 zPc (qSr t0 b0) (.cons (aN (yT _)) .nil) (by simp only [aR, aP, bC, bD, cF, aU, aT, aS, cJ, cD, List.map_cons, List.map_nil, Nat.reduceBEq, Nat.reduceEqDiff, reduceIte, cond_false, cond_true]; try rfl) ?_
 (try with_reducible refine aB ?_); simp (maxSteps := 2000000) (disch := omega) only [push_cast, ↓Int.cast_ofNat_Int, simprocAttr, dG, bQ, bP, fV, bN, bR, List.map_cons, List.map_nil, Bool.or_false, Bool.false_or, Bool.true_or, Bool.or_true, cB, bH, aR, aP, bC, bD, cQ, cF, aU, aT, aS, cJ, cA, bZ, bG, cD]
 refine qNf 296 zPc (qSr t1 b1) (.cons (aN (yT _)) .nil) (by simp only [aR, aP, bC, bD, cF, aU, aT, aS, cJ, cD, List.map_cons, List.map_nil, Nat.reduceBEq, Nat.reduceEqDiff, reduceIte, cond_false, cond_true]; try rfl) ?_
 (try with_reducible refine aB ?_); simp (maxSteps := 2000000) (disch := omega) only [push_cast, ↓Int.cast_ofNat_Int, simprocAttr, dG, bQ, bP, fV, bN, bR, List.map_cons, List.map_nil, Bool.or_false, Bool.false_or, Bool.true_or, Bool.or_true, cB, bH, aR, aP, bC, bD, cQ, cF, aU, aT, aS, cJ, cA, bZ, bG, cD]
 refine qNf 320 zPc (qSr t2 b2) (.cons (aN (yT _)) .nil) (by simp only [aR, aP, bC, bD, cF, aU, aT, aS, cJ, cD, List.map_cons, List.map_nil, Nat.reduceBEq, Nat.reduceEqDiff, reduceIte, cond_false, cond_true]; try rfl) ?_
 (try with_reducible refine aB ?_); simp (maxSteps := 2000000) (disch := omega) only [push_cast, ↓Int.cast_ofNat_Int, simprocAttr, dG, bQ, bP, fV, bN, bR, List.map_cons, List.map_nil, Bool.or_false, Bool.false_or, Bool.true_or, Bool.or_true, cB, bH, aR, aP, bC, bD, cQ, cF, aU, aT, aS, cJ, cA, bZ, bG, cD]
 refine hK1 _ ?_; clear hK1 K1; with_reducible refine aB ?_; simp (maxSteps := 2000000) (disch := omega) only [push_cast, ↓Int.cast_ofNat_Int, simprocAttr]
 refine hK _ ?_; clear hK K
 refine yB [2, 3, 5] [16, 24, 40, 272, 296, 320] (by simp only [zZ, zR, zP, zQ, zN, zS, zM, zX, zU, Nat.reduceEqDiff, reduceIte]; exact rfl) ?_
 refine zE ?_; refine zJ (fun K hK => ?_); simp (maxSteps := 2000000) (disch := omega) only [push_cast, ↓Int.cast_ofNat_Int, simprocAttr]; refine hK _ ?_; clear hK K
 refine yB [2, 3, 5, 6] [16, 24, 40, 48, 272, 296, 320] (by simp only [zZ, zR, zP, zQ, zN, zS, zM, zX, zU, Nat.reduceEqDiff, reduceIte]; exact rfl) ?_
 refine zE ?_; refine eQ 10 [(0, some 344), (3, some 344), (6, some 344)] [[(16, .bx true 52 (iT i0 j0 k0 L)), (24, .bx true 53 (iR (t0, t1, t2))), (40, .bx true 53 [.vw 272 3 0 t0.length, .vw 296 3 0 t1.length, .vw 320 3 0 t2.length]), (48, .bx true 52 (iT i0 j0 k0 L)), (272, aY (t0 ++ [spare])), (296, aY (t1 ++ [spare])), (320, aY (t2 ++ [spare]))], [(344, zDo []), (16, .bx true 52 (iT i0 j0 k0 L)), (24, .bx true 53 (iR (t0, t1, t2))), (40, .bx true 53 [.vw 272 3 0 t0.length, .vw 296 3 0 t1.length, .vw 320 3 0 t2.length]), (48, .bx true 52 (iT i0 j0 k0 L)), (272, aY (t0 ++ [spare])), (296, aY (t1 ++ [spare])), (320, aY (t2 ++ [spare]))], [(344, zDo L), (16, .bx true 52 (iT i0 j0 k0 L)), (24, .bx true 53 (iR (t0, t1, t2))), (40, .bx true 53 [.vw 272 3 0 t0.length, .vw 296 3 0 t1.length, .vw 320 3 0 t2.length]), (48, .bx true 52 (iT i0 j0 k0 L)), (272, aY (t0 ++ [spare])), (296, aY (t1 ++ [spare])), (320, aY (t2 ++ [spare]))], [(344, zDo (L ++ [vH])), (16, .bx true 52 (iT i0 j0 k0 L)), (24, .bx true 53 (iR (t0, t1, t2))), (40, .bx true 53 [.vw 272 3 0 t0.length, .vw 296 3 0 t1.length, .vw 320 3 0 t2.length]), (48, .bx true 52 (iT i0 j0 k0 L)), (272, aY (t0 ++ [spare])), (296, aY (t1 ++ [spare])), (320, aY (t2 ++ [spare]))]] [(2, 0, 3), (8, 0, 3)] mixed (by kernel_rfl) (by kernel_rfl) rfl (fun K hK K1 hK1 => ?_); simp (maxSteps := 2000000) (disch := omega) only [push_cast, ↓Int.cast_ofNat_Int, simprocAttr, aJ, bF]
 refine ⟨rfl, rfl, of_eq_true (bF [vH]), by rw [zE8], ?_⟩
 refine hK1 _ ?_; clear hK1 K1; with_reducible refine aB ?_; simp (maxSteps := 2000000) (disch := omega) only [push_cast, ↓Int.cast_ofNat_Int, simprocAttr, aJ, List.length_append, List.length_singleton, Nat.sub_zero]
 (repeat refine ⟨by first | omega | decide | ((repeat' apply And.intro) <;> first | omega | decide), ?_⟩); refine hK _ ?_; clear hK K
 refine yB [2, 3, 5, 6] [16, 24, 40, 48, 272, 296, 320, 344] (by simp only [zZ, zR, zP, zQ, zN, zS, zM, zX, zU, Nat.reduceEqDiff, reduceIte]; exact rfl) ?_
 have p1 := qYh i0 j0 k0 L (t0, t1, t2) tT hL hs
 have p2 := zKo i0 j0 k0 L (t0, t1, t2) tT hL hs
 have trU := qYi (L := L.filter fun c => eF c (t0, t1, t2)) tT
 have hzl := zC7 L (t0, t1, t2)
 have hyl := qNz (jE L (t0, t1, t2)).2
 rw [show (lK (L.filter fun c => eF c (t0, t1, t2)) (t0, t1, t2)).1 = (jE L (t0, t1, t2)).1 from rfl] at trU
 generalize nJ (jE L (t0, t1, t2)).2 = Y at *
 generalize (jE L (t0, t1, t2)).1 = U at *
 obtain ⟨u0, u1, u2⟩ := U
 have s1 := zKn (u0, u1, u2) (u0, u1, u2) trU.big.len
 rw [decide_eq_true rfl] at s1
 have s2 := zKh Y Y (by omega) (by omega)
 rw [decide_eq_true rfl] at s2
 have s3 := zKm L L (by omega) (by omega)
 rw [decide_eq_true rfl] at s3
 refine zE ?_; refine zJ (fun K hK => ?_); simp (maxSteps := 2000000) (disch := omega) only [push_cast, ↓Int.cast_ofNat_Int, simprocAttr]
 refine hat 464 zN9 p1 (.cons (zG7 (qCt (qEs L) rfl)) (.cons (eX (qCt (jY _) rfl) (qCt (jY _) rfl) (qCt (jY _) rfl)) .nil)) ?_
 rintro _ _ ⟨rfl, rfl⟩
 with_reducible refine aB ?_; simp (maxSteps := 2000000) (disch := omega) only [push_cast, ↓Int.cast_ofNat_Int, simprocAttr]
 refine hK _ ?_; clear hK K
 refine yB [2, 3, 5, 6, 7, 8] [16, 24, 40, 48, 56, 272, 296, 320, 344, 464, 465, 466, 467] (by simp only [zZ, zR, zP, zQ, zN, zS, zM, zX, zU, Nat.reduceEqDiff, reduceIte]; exact rfl) ?_
 refine zE ?_; refine zJ (fun K hK => ?_); simp (maxSteps := 2000000) (disch := omega) only [push_cast, ↓Int.cast_ofNat_Int, simprocAttr]
 refine zHu 512 [] zR9 (p2) rfl (by decide) (by decide) (by simp only [push_cast, dM, yF, Option.getD_some, Bool.or_true, Bool.or_false, Bool.and_true, Bool.and_false, Option.map_some, Option.map_none, Nat.zero_add, simprocAttr]; try rfl) (by simp only [push_cast, dM, yF, Option.getD_some, Bool.or_true, Bool.or_false, Bool.and_true, Bool.and_false, Option.map_some, Option.map_none, Nat.zero_add, simprocAttr]; try rfl) ?_
 rintro _ _ ⟨f0, f1, f2, rfl, rfl⟩
 refine aB ?_; simp (maxSteps := 2000000) (disch := omega) only [push_cast, ↓Int.cast_ofNat_Int, simprocAttr, Option.getD_some, Bool.or_true, Bool.or_false, Bool.and_true, Bool.and_false, Nat.zero_add, dM, yF, Option.map_some, Option.map_none]
 refine hK _ ?_; clear hK K
 refine yB [2, 3, 5, 6, 7, 8, 9, 10] [16, 24, 40, 48, 56, 72, 272, 296, 320, 344, 464, 465, 466, 467, 512] (by simp only [zZ, zR, zP, zQ, zN, zS, zM, zX, zU, Nat.reduceEqDiff, reduceIte]; exact rfl) ?_
 have hsp : ∀ {d : List FV}, (chs (L ++ [vH])).getD L.length d = [FV.v (.string { data := #[115, 112, 97, 114, 101] }), .v (.int .i64 0), .v (.int .i64 0), .v (.string ByteArray.empty), .v (.int .i64 0), .v (.string ByteArray.empty), .v (.int .i64 0), .v (.string ByteArray.empty), .v (.int .i64 0), .v (.string ByteArray.empty), .v (.int .i64 0), .v (.string ByteArray.empty), .v (.int .i64 0), .v (.string ByteArray.empty)] := fun {d} => by rw [bJ (by simp)]; simp [vH]
 have hsl : (chs (L ++ [vH])).length = L.length + 1 := by rw [aJ, List.length_append]; rfl
 refine zE ?_; refine zE ?_; refine dQ 34 mixed (by kernel_rfl) (fun K hK K1 hK1 => ?_); simp (maxSteps := 2000000) (disch := omega) only [push_cast, ↓Int.cast_ofNat_Int, simprocAttr, aJ, bF]
 refine qQ2 zR8 s1 (.cons (eX (mU (yT _) rfl) (mU (yT _) rfl) (mU (yT _) rfl)) (.cons (eX (aN (yT _)) (aN (yT _)) (aN (yT _))) .nil)) ?_
 with_reducible refine aB ?_; simp (maxSteps := 2000000) (disch := omega) only [push_cast, ↓Int.cast_ofNat_Int, simprocAttr, aJ, bF]
 refine qQ2 zR7 s2 (.cons (mU (vC _) rfl) (.cons (mU (vC _) rfl) .nil)) ?_
 with_reducible refine aB ?_; simp (maxSteps := 2000000) (disch := omega) only [push_cast, ↓Int.cast_ofNat_Int, simprocAttr, aJ, bF]
 refine qQ2 zR6 s3 (.cons (qCt (qEs L) rfl) (.cons (aN (iC _)) .nil)) ?_
 with_reducible refine aB ?_; simp (maxSteps := 2000000) (disch := omega) only [push_cast, ↓Int.cast_ofNat_Int, simprocAttr, hsl, aJ, bF, hsp, Nat.sub_zero]
 refine hK1 _ ?_; clear hK1 K1; with_reducible refine aB ?_; simp (maxSteps := 2000000) (disch := omega) only [push_cast, ↓Int.cast_ofNat_Int, simprocAttr]
 refine hK _ ?_; clear hK K
 refine yC rfl ?_
 refine zC ?_; refine zE ?_; refine zE ?_
 refine yB [2, 3, 5, 7] [16, 24, 40, 56, 272, 296, 320, 464, 465, 466] (by simp only [zZ, zR, zP, zQ, zN, zS, zM, zX, zU, Nat.reduceEqDiff, reduceIte]; exact rfl) ?_
 refine zJ (fun K hK => ?_); simp (maxSteps := 2000000) (disch := omega) only [push_cast, ↓Int.cast_ofNat_Int, simprocAttr]; refine hK _ ?_; clear hK K
 refine zA ?_; refine zD ?_
 refine bM (fun i : Nat => ⟨[(2, .ptr 16 4 0 0), (3, .ptr 24 3 0 0), (5, .ptr 40 3 0 0), (7, .ptr 56 3 0 0), (11, .v (.int .i64 i))], [(16, .bx true 52 (iT i0 j0 k0 L)), (24, .bx true 53 (iR (t0, t1, t2))), (40, .bx true 53 [.vw 272 3 0 t0.length, .vw 296 3 0 t1.length, .vw 320 3 0 t2.length]), (56, .bx true 53 [.own 464, .own 465, .own 466]), (272, aY (t0 ++ [spare])), (296, aY (t1 ++ [spare])), (320, aY (t2 ++ [spare])), (464, aY u0), (465, aY u1), (466, aY u2)]⟩) (fun i => i ≤ L.length) (fun i => L.length - i) [2, 3, 5, 7, 11] [16, 24, 40, 56, 272, 296, 320, 464, 465, 466] 0 (by simp only [zZ, zR, zP, zQ, zN, zS, zM, zX, zU, Nat.reduceEqDiff, reduceIte]; try rfl) (Nat.zero_le _) ?_
 intro i hi
 by_cases hlt : i < L.length
 ·have c47 := zF3 L[i] (t0, t1, t2) (fun k hk => (tT.tr k).ri) (fun k hk => by have := (tT.tr k).len; omega)
  have c48 := qZt L[i] (t0, t1, t2) (fun k hk => by have := (tT.tr k).len; omega)
  generalize eF L[i] (t0, t1, t2) = r at c47 c48
  refine zE ?_; refine zE ?_; refine zJ (fun K hK => ?_); simp (maxSteps := 2000000) (disch := omega) only [push_cast, ↓Int.cast_ofNat_Int, simprocAttr, aJ]; refine hK _ ?_; clear hK K
  refine zA ?_
  refine yD rfl ?_
  refine zC ?_; refine zE ?_
  refine zD ?_; refine zE ?_; refine dQ 15 mixed (by kernel_rfl) (fun K hK K1 hK1 => ?_); simp (maxSteps := 2000000) (disch := omega) only [push_cast, ↓Int.cast_ofNat_Int, simprocAttr, aJ, bF, bJ hlt]
  refine qQ2 zN8 c47 (.cons (wH L[i]) (.cons (eX (qCt (jY _) rfl) (qCt (jY _) rfl) (qCt (jY _) rfl)) .nil)) ?_
  with_reducible refine aB ?_; simp (maxSteps := 2000000) (disch := omega) only [push_cast, ↓Int.cast_ofNat_Int, simprocAttr, aJ, bF, bJ hlt]
  refine qQ2 zQz c48 (.cons (wH L[i]) (.cons (eX (aN (yT _)) (aN (yT _)) (aN (yT _))) .nil)) ?_
  cases r with
  | true =>
   with_reducible refine aB ?_; simp (maxSteps := 2000000) (disch := omega) only [push_cast, ↓Int.cast_ofNat_Int, simprocAttr]
   refine hK1 _ ?_; clear hK1 K1; with_reducible refine aB ?_; simp (maxSteps := 2000000) (disch := omega) only [push_cast, ↓Int.cast_ofNat_Int, simprocAttr]
   refine hK _ ?_; clear hK K
   refine yC rfl ?_
   refine zC ?_; refine zB ?_; refine zA ?_
   refine zJ (fun K hK => ?_); simp (maxSteps := 2000000) (disch := omega) only [push_cast, ↓Int.cast_ofNat_Int, simprocAttr]; refine hK _ ?_; clear hK K
   refine zA ?_
   exact ⟨i + 1, by simp only [zZ, zR, zP, zQ, zN, zS, zM, zX, zU, Nat.reduceEqDiff, reduceIte]; try rfl, hlt, by omega⟩
  | false =>
   with_reducible refine aB ?_; simp (maxSteps := 2000000) (disch := omega) only [push_cast, ↓Int.cast_ofNat_Int, simprocAttr]
   refine hK1 _ ?_; clear hK1 K1; with_reducible refine aB ?_; simp (maxSteps := 2000000) (disch := omega) only [push_cast, ↓Int.cast_ofNat_Int, simprocAttr]
   refine hK _ ?_; clear hK K
   refine yC rfl ?_
   refine zC ?_; refine zB ?_; refine zA ?_
   refine zJ (fun K hK => ?_); simp (maxSteps := 2000000) (disch := omega) only [push_cast, ↓Int.cast_ofNat_Int, simprocAttr]; refine hK _ ?_; clear hK K
   refine zA ?_
   exact ⟨i + 1, by simp only [zZ, zR, zP, zQ, zN, zS, zM, zX, zU, Nat.reduceEqDiff, reduceIte]; try rfl, hlt, by omega⟩
 have hie : i = L.length := by omega
 subst hie
 refine zE ?_; refine zE ?_; refine zJ (fun K hK => ?_); simp (maxSteps := 2000000) (disch := omega) only [push_cast, ↓Int.cast_ofNat_Int, simprocAttr, aJ]; refine hK _ ?_; clear hK K
 refine zA ?_
 refine yC rfl ?_
 refine zT ?_; refine zG ?_; refine zG ?_; refine zH ?_; refine zE ?_
 refine yB [3, 5, 7] [24, 40, 56, 272, 296, 320, 464, 465, 466] (by simp only [zZ, zR, zP, zQ, zN, zS, zM, zX, zU, Nat.reduceEqDiff, reduceIte]; exact rfl) ?_
 refine lF 464 1000001 (by decide) rfl rfl (by simp only [kU, wD, iM, gA, iH, fX, dG, bQ, bP, fZ, fV, bR, bN, eV, dT, dV, dU, Nat.reduceMul, Nat.reduceAdd, Nat.reduceEqDiff, reduceIte, List.map_cons, List.map_nil]; exact rfl) ?_
 refine lF 465 1000002 (by decide) rfl rfl (by simp only [kU, wD, iM, gA, iH, fX, dG, bQ, bP, fZ, fV, bR, bN, eV, dT, dV, dU, Nat.reduceMul, Nat.reduceAdd, Nat.reduceEqDiff, reduceIte, List.map_cons, List.map_nil]; exact rfl) ?_
 refine lF 466 1000003 (by decide) rfl rfl (by simp only [kU, wD, iM, gA, iH, fX, dG, bQ, bP, fZ, fV, bR, bN, eV, dT, dV, dU, Nat.reduceMul, Nat.reduceAdd, Nat.reduceEqDiff, reduceIte, List.map_cons, List.map_nil]; exact rfl) ?_
 refine lF 272 1000004 (by decide) rfl rfl (by simp only [kU, wD, iM, gA, iH, fX, dG, bQ, bP, fZ, fV, bR, bN, eV, dT, dV, dU, Nat.reduceMul, Nat.reduceAdd, Nat.reduceEqDiff, reduceIte, List.map_cons, List.map_nil]; exact rfl) ?_
 refine lF 296 1000005 (by decide) rfl rfl (by simp only [kU, wD, iM, gA, iH, fX, dG, bQ, bP, fZ, fV, bR, bN, eV, dT, dV, dU, Nat.reduceMul, Nat.reduceAdd, Nat.reduceEqDiff, reduceIte, List.map_cons, List.map_nil]; exact rfl) ?_
 refine lF 320 1000006 (by decide) rfl rfl (by simp only [kU, wD, iM, gA, iH, fX, dG, bQ, bP, fZ, fV, bR, bN, eV, dT, dV, dU, Nat.reduceMul, Nat.reduceAdd, Nat.reduceEqDiff, reduceIte, List.map_cons, List.map_nil]; exact rfl) ?_
 have h0 : t0.length < (aH (t0 ++ [spare])).length := by rw [yV, List.length_append]; simp
 have h1 : t1.length < (aH (t1 ++ [spare])).length := by rw [yV, List.length_append]; simp
 have h2 : t2.length < (aH (t2 ++ [spare])).length := by rw [yV, List.length_append]; simp
 have q0 : (aH (t0 ++ [spare])).take t0.length = aH t0 := by rw [lX, List.take_left' rfl]
 have q1 : (aH (t1 ++ [spare])).take t1.length = aH t1 := by rw [lX, List.take_left' rfl]
 have q2 : (aH (t2 ++ [spare])).take t2.length = aH t2 := by rw [lX, List.take_left' rfl]
 refine zLy (fun K hK => ?_)
 refine zJ9 32 [142, 144, 146, 148, 150, 152, 154, 155, 156, 157] [1000001, 1000002, 1000003, 1000004, 1000005, 1000006, 24, 40, 56] ?_; simp (maxSteps := 2000000) (disch := omega) only [push_cast, ↓Int.cast_ofNat_Int, simprocAttr]
 refine qS6 b0 rfl (aN (yT _)) ?_
 with_reducible refine aB ?_; simp (maxSteps := 2000000) (disch := omega) only [push_cast, ↓Int.cast_ofNat_Int, simprocAttr]
 refine qS6 b1 rfl (aN (yT _)) ?_
 with_reducible refine aB ?_; simp (maxSteps := 2000000) (disch := omega) only [push_cast, ↓Int.cast_ofNat_Int, simprocAttr]
 refine qS6 b2 rfl (aN (yT _)) ?_
 with_reducible refine aB ?_; simp (maxSteps := 2000000) (disch := omega) only [push_cast, ↓Int.cast_ofNat_Int, simprocAttr]
 refine aB ?_; simp only [zZ, zR, zP, zQ, zN, zS, zM, zX, zU, Nat.reduceEqDiff, reduceIte, List.drop_succ_cons, List.drop_zero]
 refine qEp 1000004 (t0.length) rfl (by exact h0) (by simp only [qSg, qEi, qBl, qDx, qA4, qS3, qEb, qEa, qD9, qJ5, qEc, qD8, qBe, qHh, qHj, qHi, Nat.sub_zero, true_and, eq_self, and_self, Nat.reduceMul, Nat.reduceAdd, Nat.reduceEqDiff, reduceIte, List.map_cons, List.map_nil, q0]; exact rfl) ?_
 refine qEp 1000005 (t1.length) rfl (by exact h1) (by simp only [qSg, qEi, qBl, qDx, qA4, qS3, qEb, qEa, qD9, qJ5, qEc, qD8, qBe, qHh, qHj, qHi, Nat.sub_zero, true_and, eq_self, and_self, Nat.reduceMul, Nat.reduceAdd, Nat.reduceEqDiff, reduceIte, List.map_cons, List.map_nil, q1]; exact rfl) ?_
 refine qEp 1000006 (t2.length) rfl (by exact h2) (by simp only [qSg, qEi, qBl, qDx, qA4, qS3, qEb, qEa, qD9, qJ5, qEc, qD8, qBe, qHh, qHj, qHi, Nat.sub_zero, true_and, eq_self, and_self, Nat.reduceMul, Nat.reduceAdd, Nat.reduceEqDiff, reduceIte, List.map_cons, List.map_nil, q2]; exact rfl) ?_
 refine zJ8 ?_; simp (maxSteps := 2000000) (disch := omega) only [push_cast, ↓Int.cast_ofNat_Int, simprocAttr]
 have l0 : u0.length ≤ 200 := trU.t0.len
 have l1 : u1.length ≤ 200 := trU.t1.len
 have l2 : u2.length ≤ 200 := trU.t2.len
 have h6 : ∀ i, i < 6 → ([u0, u1, u2, t0, t1, t2].getD i []).length ≤ 1000000000 := fun i hi => by
  match i, hi with
  | 0, _ => show u0.length ≤ _; omega
  | 1, _ => show u1.length ≤ _; omega
  | 2, _ => show u2.length ≤ _; omega
  | 3, _ => show t0.length ≤ _; omega
  | 4, _ => show t1.length ≤ _; omega
  | 5, _ => show t2.length ≤ _; omega
 refine zHu 1248 [1240, 1000001, 1000002, 1000003, 1000004, 1000005, 1000006] zSb (zFe u0 u1 u2 t0 t1 t2 true true true true true true true h6) rfl (by decide) (by decide) (by simp only [push_cast, dM, yF, Option.getD_some, Bool.or_true, Bool.or_false, Bool.and_true, Bool.and_false, Option.map_some, Option.map_none, Nat.zero_add, simprocAttr]; try rfl) (by simp only [push_cast, dM, yF, Option.getD_some, Bool.or_true, Bool.or_false, Bool.and_true, Bool.and_false, Option.map_some, Option.map_none, Nat.zero_add, simprocAttr]; try rfl) ?_
 rintro _ _ ⟨rfl, rfl⟩
 refine aB ?_; simp (maxSteps := 2000000) (disch := omega) only [push_cast, ↓Int.cast_ofNat_Int, simprocAttr, Option.getD_some, Bool.or_true, Bool.or_false, Bool.and_true, Bool.and_false, Nat.zero_add, dM, yF, Option.map_some, Option.map_none]
 refine hK _ ?_; clear hK K
 refine zA ?_; refine zW ?_
 simp only [yA, yM, yH, yE, aA, aC, yK, yJ, zS, zM, Nat.reduceEqDiff, reduceIte, reduceCtorEq]
 exact aK rfl
theorem qTo (a : zLw) (T : Tri) (hu : fwR a + (fwT T + 0) ≤ 1048576) : HFun Tryd.prog 9 [zP8 a, uY T] (fun h st => h = .v (.bool true)) := by
 obtain ⟨h1, h2⟩ := zN2 a.2.2.2
 unfold fwR at hu
 exact qTp _ _ _ _ T (zLf (n := 0) (by omega)) (by omega) (fun c hc => by have := h2 c hc; omega)
end Go.Proofs.YtkonlklieacjoaaDoor
