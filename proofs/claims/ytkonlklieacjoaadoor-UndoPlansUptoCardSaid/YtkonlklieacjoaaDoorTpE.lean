/-
  The document's Put.
-/
import Derived.Test.YtkonlklieacjoaaDoorTpD
import Derived.Test.YtkonlklieacjoaaDoorOne
import Derived.Test.YtkonlklieacjoaaDoorTsA
set_option linter.unusedSimpArgs false
set_option linter.unusedVariables false
set_option maxRecDepth 20000
namespace Go.Tr
open Go Go.Eng
def qB9 (t : List Ent) (p : ByteArray) (n : Int × ByteArray) : List Ent := (t.filter fun e => !decide (e.1 = p)) ++ if n.1 = 0 then [] else [(p, n)]
def vM (t : List Ent) (p : ByteArray) (n : Int × ByteArray) : List Ent := if eW t p n = 0 then sortS (qB9 t p n) else []
end Go.Tr
namespace Go.Proofs.YtkonlklieacjoaaDoor
open Go Go.Eng Go.RowKit Go.Tr
set_option maxHeartbeats 8000000 in
theorem zFz (t : List Ent) (p : ByteArray) (n : Int × ByteArray) (hth : dD t p = !decide ((bW t p).1 = 0)) (hl : t.length ≤ 1048576) (sz : p.size ≤ 1048576) (szt : ∀ e ∈ t, e.1.size ≤ 1048576) : HFun Tryd.prog 21 [.lst false (aH t), .v (.string p), nL n] (fun h st => h = .tup [.own 0, .v (.int .i64 (eW t p n))] ∧ st = [(0, aY (vM t p n))]) := by
 obtain ⟨k, d⟩ := n
 refine eK (N := 101) Tryd.func21 rfl Tryd.ntmps21 Tryd.results21 (by simp) ?_
 have c34 : HFun Tryd.prog 34 [.v (.string p), .v (.int .i64 5)] (fun h st => h = .v (.int .i64 (okN (pOk p 5)))) := qN3 p 5 sz (by omega)
 have c18 := qT8 (k, d)
 have c26 := qSs t p (by omega)
 have c52 := qN4 p sz
 have c26b := qSs t (par p) (by omega)
 have c27 := zNj t p (by omega) szt sz
 refine zE ?_; refine zJ (fun K hK => ?_); simp (maxSteps := 2000000) (disch := omega) only [push_cast, ↓Int.cast_ofNat_Int, simprocAttr]; refine hK _ ?_; clear hK K
 cases ok : pOk p 5 with
 | false =>
  have hE : eW t p (k, d) = 10 := by simp [eW, ok]
  rw [ok, zG2] at c34
  refine zE ?_; refine zE ?_; refine zJ (fun K hK => ?_); simp (maxSteps := 2000000) (disch := omega) only [push_cast, ↓Int.cast_ofNat_Int, simprocAttr]
  refine bV qXh c34 (.cons (.v _) (.cons (.v _) .nil)) ?_
  with_reducible refine aB ?_; simp (maxSteps := 2000000) (disch := omega) only [push_cast, ↓Int.cast_ofNat_Int, simprocAttr]
  refine hK _ ?_; clear hK K
  refine yD rfl ?_
  refine zE ?_; refine zJ (fun K hK => ?_); simp (maxSteps := 2000000) (disch := omega) only [push_cast, ↓Int.cast_ofNat_Int, simprocAttr]; refine hK _ ?_; clear hK K
  refine eD 6 9000 68 3 rfl (by simp only [dR, eZ, fA, cB, bH, aR, aP, cF, aU, aT, aS, cJ, cA, bZ, bG, bC, bD, cQ, cD, dA, cP, Nat.reduceBEq, Nat.reduceEqDiff, reduceIte, cond_true, cond_false, List.map_cons, List.map_nil]; exact rfl) ?_
  refine zW ?_; refine zK ?_
  simp only [yA, yM, yH, yE, aA, aC, yK, yJ, zS, zM, Nat.reduceEqDiff, reduceIte, reduceCtorEq]
  exact fP rfl (aV []) ⟨by rw [hE], by rw [vM, hE]; rfl⟩
 | true =>
 rw [ok, zG1] at c34
 refine zE ?_; refine zE ?_; refine zJ (fun K hK => ?_); simp (maxSteps := 2000000) (disch := omega) only [push_cast, ↓Int.cast_ofNat_Int, simprocAttr]
 refine bV qXh c34 (.cons (.v _) (.cons (.v _) .nil)) ?_
 with_reducible refine aB ?_; simp (maxSteps := 2000000) (disch := omega) only [push_cast, ↓Int.cast_ofNat_Int, simprocAttr]
 refine hK _ ?_; clear hK K
 refine yC rfl ?_
 refine zC ?_; refine zE ?_; refine zE ?_
 cases wh : bL (k, d) with
 | false =>
  have hE : eW t p (k, d) = 1 := by simp [eW, ok, wh]
  rw [wh] at c18
  refine zJ (fun K hK => ?_); simp (maxSteps := 2000000) (disch := omega) only [push_cast, ↓Int.cast_ofNat_Int, simprocAttr]
  refine bV qZg c18 (.cons (bB (n := (k, d))) .nil) ?_
  with_reducible refine aB ?_; simp (maxSteps := 2000000) (disch := omega) only [push_cast, ↓Int.cast_ofNat_Int, simprocAttr]
  refine hK _ ?_; clear hK K
  refine yD rfl ?_
  refine zE ?_; refine zJ (fun K hK => ?_); simp (maxSteps := 2000000) (disch := omega) only [push_cast, ↓Int.cast_ofNat_Int, simprocAttr]; refine hK _ ?_; clear hK K
  refine eD 6 9000 68 3 rfl (by simp only [dR, eZ, fA, cB, bH, aR, aP, cF, aU, aT, aS, cJ, cA, bZ, bG, bC, bD, cQ, cD, dA, cP, Nat.reduceBEq, Nat.reduceEqDiff, reduceIte, cond_true, cond_false, List.map_cons, List.map_nil]; exact rfl) ?_
  refine zW ?_; refine zK ?_
  simp only [yA, yM, yH, yE, aA, aC, yK, yJ, zS, zM, Nat.reduceEqDiff, reduceIte, reduceCtorEq]
  exact fP rfl (aV []) ⟨by rw [hE], by rw [vM, hE]; rfl⟩
 | true =>
 rw [wh] at c18
 refine zJ (fun K hK => ?_); simp (maxSteps := 2000000) (disch := omega) only [push_cast, ↓Int.cast_ofNat_Int, simprocAttr]
 refine bV qZg c18 (.cons (bB (n := (k, d))) .nil) ?_
 with_reducible refine aB ?_; simp (maxSteps := 2000000) (disch := omega) only [push_cast, ↓Int.cast_ofNat_Int, simprocAttr]
 refine hK _ ?_; clear hK K
 refine yC rfl ?_
 refine zC ?_; refine zE ?_
 generalize bW t p = m0 at c26 hth
 obtain ⟨k0, d0⟩ := m0
 dsimp only at hth
 refine zJ (fun K hK => ?_); simp (maxSteps := 2000000) (disch := omega) only [push_cast, ↓Int.cast_ofNat_Int, simprocAttr]
 refine hat 160 zE6 c26 (.cons (aN (yT _)) (.cons (.v _) .nil)) ?_
 rintro _ _ ⟨rfl, rfl⟩
 with_reducible refine aB ?_; simp (maxSteps := 2000000) (disch := omega) only [push_cast, ↓Int.cast_ofNat_Int, simprocAttr, hth.symm]
 refine hK _ ?_; clear hK K
 refine zE ?_; refine zJ (fun K hK => ?_); simp (maxSteps := 2000000) (disch := omega) only [push_cast, ↓Int.cast_ofNat_Int, simprocAttr]
 refine bV zE5 c52 (.cons (.v _) .nil) ?_
 with_reducible refine aB ?_; simp (maxSteps := 2000000) (disch := omega) only [push_cast, ↓Int.cast_ofNat_Int, simprocAttr]
 refine hK _ ?_; clear hK K
 refine zE ?_; refine zE ?_
 cases hgood : (if k = 0 then dD t p else qGq t p) with
 | false =>
  have hE : eW t p (k, d) = 11 := by simp only [eW, ok, wh, hgood]; simp
  by_cases hk : k = 0
  ·rw [if_pos hk] at hgood
   have hk0 : decide (k = 0) = true := decide_eq_true hk
   rw [hgood]
   refine zJ (fun K hK => ?_); simp (maxSteps := 2000000) (disch := omega) only [push_cast, ↓Int.cast_ofNat_Int, simprocAttr, hk0]; refine hK _ ?_; clear hK K
   refine yD rfl ?_
   refine zE ?_; refine zJ (fun K hK => ?_); simp (maxSteps := 2000000) (disch := omega) only [push_cast, ↓Int.cast_ofNat_Int, simprocAttr]; refine hK _ ?_; clear hK K
   refine eD 6 9000 68 3 rfl (by simp only [dR, eZ, fA, cB, bH, aR, aP, cF, aU, aT, aS, cJ, cA, bZ, bG, bC, bD, cQ, cD, dA, cP, Nat.reduceBEq, Nat.reduceEqDiff, reduceIte, cond_true, cond_false, List.map_cons, List.map_nil]; exact rfl) ?_
   refine zW ?_; refine zK ?_
   simp only [yA, yM, yH, yE, aA, aC, yK, yJ, zS, zM, Nat.reduceEqDiff, reduceIte, reduceCtorEq]
   exact fP rfl (aV []) ⟨by rw [hE], by rw [vM, hE]; rfl⟩
  ·rw [if_neg hk] at hgood
   have hk0 : decide (k = 0) = false := decide_eq_false hk
   simp only [qGq, Bool.or_eq_false_iff] at hgood
   obtain ⟨he, hk1⟩ := hgood
   generalize bW t (par p) = m at c26b hk1
   obtain ⟨km, dm⟩ := m
   dsimp only at hk1
   refine zJ (fun K hK => ?_); simp (maxSteps := 2000000) (disch := omega) only [push_cast, ↓Int.cast_ofNat_Int, simprocAttr, hk0, he]
   refine hat 344 zE6 c26b (.cons (aN (yT _)) (.cons (.v _) .nil)) ?_
   rintro _ _ ⟨rfl, rfl⟩
   with_reducible refine aB ?_; simp (maxSteps := 2000000) (disch := omega) only [push_cast, ↓Int.cast_ofNat_Int, simprocAttr, he, hk1]
   refine hK _ ?_; clear hK K
   refine yD rfl ?_
   refine zE ?_; refine zJ (fun K hK => ?_); simp (maxSteps := 2000000) (disch := omega) only [push_cast, ↓Int.cast_ofNat_Int, simprocAttr]; refine hK _ ?_; clear hK K
   refine eD 6 9000 68 3 rfl (by simp only [dR, eZ, fA, cB, bH, aR, aP, cF, aU, aT, aS, cJ, cA, bZ, bG, bC, bD, cQ, cD, dA, cP, Nat.reduceBEq, Nat.reduceEqDiff, reduceIte, cond_true, cond_false, List.map_cons, List.map_nil]; exact rfl) ?_
   refine zW ?_; refine zK ?_
   simp only [yA, yM, yH, yE, aA, aC, yK, yJ, zS, zM, Nat.reduceEqDiff, reduceIte, reduceCtorEq]
   exact fP rfl (aV []) ⟨by rw [hE], by rw [vM, hE]; rfl⟩
 | true =>
 refine jR (fun _ : Unit => ⟨[(0, .lst false (aH t)), (1, .v (.string p)), (5, .ptr 40 2 0 0), (8, .v (.bool (dD t p))), (47, .v (.bool false))], [(40, .bx true 24 [.v (.int .i64 k), .v (.string d)])]⟩) (fun _ => True) [0, 1, 5, 8, 47] [40] ?_ ?_
 ·by_cases hk : k = 0
  ·rw [if_pos hk] at hgood
   have hk0 : decide (k = 0) = true := decide_eq_true hk
   rw [hgood]
   refine zJ (fun K hK => ?_); simp (maxSteps := 2000000) (disch := omega) only [push_cast, ↓Int.cast_ofNat_Int, simprocAttr, hk0]; refine hK _ ?_; clear hK K
   exact ⟨(), by simp only [zZ, zR, zP, zQ, zN, zS, zM, zX, zU, Nat.reduceEqDiff, reduceIte], trivial⟩
  ·rw [if_neg hk] at hgood
   have hk0 : decide (k = 0) = false := decide_eq_false hk
   cases he : decide (par p = { data := #[] }) with
   | true =>
    refine zJ (fun K hK => ?_); simp (maxSteps := 2000000) (disch := omega) only [push_cast, ↓Int.cast_ofNat_Int, simprocAttr, hk0, he]; refine hK _ ?_; clear hK K
    exact ⟨(), by simp only [zZ, zR, zP, zQ, zN, zS, zM, zX, zU, Nat.reduceEqDiff, reduceIte]; try rfl, trivial⟩
   | false =>
    simp only [qGq, he, Bool.false_or] at hgood
    generalize bW t (par p) = m at c26b hgood
    obtain ⟨km, dm⟩ := m
    dsimp only at hgood
    refine zJ (fun K hK => ?_); simp (maxSteps := 2000000) (disch := omega) only [push_cast, ↓Int.cast_ofNat_Int, simprocAttr, hk0, he]
    refine hat 344 zE6 c26b (.cons (aN (yT _)) (.cons (.v _) .nil)) ?_
    rintro _ _ ⟨rfl, rfl⟩
    with_reducible refine aB ?_; simp (maxSteps := 2000000) (disch := omega) only [push_cast, ↓Int.cast_ofNat_Int, simprocAttr, he, hgood]
    refine hK _ ?_; clear hK K
    exact ⟨(), by simp only [zZ, zR, zP, zQ, zN, zS, zM, zX, zU, Nat.reduceEqDiff, reduceIte]; try rfl, trivial⟩
 intro S' _ hE _
 refine zA ?_
 refine yB [0, 1, 5, 8, 47] [40] hE ?_
 clear hE
 refine yC rfl ?_
 refine zC ?_; refine zE ?_; refine zE ?_
 by_cases h12 : k ≠ 1 ∧ 1 < (t.filter fun e => jT e.1 p).length
 ·have hE : eW t p (k, d) = 12 := (qGh (n := (k, d)) ok wh hgood).trans (if_pos h12)
  obtain ⟨hk1, hfl⟩ := h12
  have hkd : decide (k = 1) = false := decide_eq_false hk1
  generalize t.filter (fun e => jT e.1 p) = F at c27 hfl
  refine zJ (fun K hK => ?_); simp (maxSteps := 2000000) (disch := omega) only [push_cast, ↓Int.cast_ofNat_Int, simprocAttr, hkd]
  refine hat 432 zQ0 c27 (.cons (aN (yT _)) (.cons (.v _) .nil)) ?_
  rintro _ _ ⟨rfl, rfl⟩
  with_reducible refine aB ?_; simp (maxSteps := 2000000) (disch := omega) only [push_cast, ↓Int.cast_ofNat_Int, simprocAttr, hkd, yV]
  refine hK _ ?_; clear hK K
  refine yD rfl ?_
  refine zE ?_; refine zJ (fun K hK => ?_); simp (maxSteps := 2000000) (disch := omega) only [push_cast, ↓Int.cast_ofNat_Int, simprocAttr]; refine hK _ ?_; clear hK K
  refine eD 6 9000 68 3 rfl (by simp only [dR, eZ, fA, cB, bH, aR, aP, cF, aU, aT, aS, cJ, cA, bZ, bG, bC, bD, cQ, cD, dA, cP, Nat.reduceBEq, Nat.reduceEqDiff, reduceIte, cond_true, cond_false, List.map_cons, List.map_nil]; exact rfl) ?_
  refine zW ?_; refine zK ?_
  simp only [yA, yM, yH, yE, aA, aC, yK, yJ, zS, zM, Nat.reduceEqDiff, reduceIte, reduceCtorEq]
  exact fP rfl (aV []) ⟨by rw [hE], by rw [vM, hE]; rfl⟩
 refine jR (fun _ : Unit => ⟨[(0, .lst false (aH t)), (1, .v (.string p)), (5, .ptr 40 2 0 0), (8, .v (.bool (dD t p))), (57, .v (.bool false))], [(40, .bx true 24 [.v (.int .i64 k), .v (.string d)])]⟩) (fun _ => True) [0, 1, 5, 8, 57] [40] ?_ ?_
 ·by_cases hk1 : k = 1
  ·have hkd : decide (k = 1) = true := decide_eq_true hk1
   refine zJ (fun K hK => ?_); simp (maxSteps := 2000000) (disch := omega) only [push_cast, ↓Int.cast_ofNat_Int, simprocAttr, hkd]; refine hK _ ?_; clear hK K
   exact ⟨(), by simp only [zZ, zR, zP, zQ, zN, zS, zM, zX, zU, Nat.reduceEqDiff, reduceIte]; try rfl, trivial⟩
  ·have hkd : decide (k = 1) = false := decide_eq_false hk1
   have hfl : ¬ 1 < (t.filter fun e => jT e.1 p).length := fun h => h12 ⟨hk1, h⟩
   generalize t.filter (fun e => jT e.1 p) = F at c27 hfl
   refine zJ (fun K hK => ?_); simp (maxSteps := 2000000) (disch := omega) only [push_cast, ↓Int.cast_ofNat_Int, simprocAttr, hkd]
   refine hat 432 zQ0 c27 (.cons (aN (yT _)) (.cons (.v _) .nil)) ?_
   rintro _ _ ⟨rfl, rfl⟩
   with_reducible refine aB ?_; simp (maxSteps := 2000000) (disch := omega) only [push_cast, ↓Int.cast_ofNat_Int, simprocAttr, hkd, yV]
   refine hK _ ?_; clear hK K
   exact ⟨(), by simp only [zZ, zR, zP, zQ, zN, zS, zM, zX, zU, Nat.reduceEqDiff, reduceIte]; try rfl, trivial⟩
 intro S' _ hE _
 refine zA ?_
 refine yB [0, 1, 5, 8, 57] [40] hE ?_
 clear hE
 refine yC rfl ?_
 refine zC ?_; refine zE ?_; refine zE ?_
 have hgo := (qGh (n := (k, d)) ok wh hgood).trans (if_neg h12)
 by_cases h4 : k ≠ 0 ∧ dD t p = false ∧ 200 ≤ t.length
 ·have hE : eW t p (k, d) = 4 := hgo.trans (if_pos h4)
  obtain ⟨hk, th, h200⟩ := h4
  have hk0 : decide (k = 0) = false := decide_eq_false hk
  rw [th]
  refine zJ (fun K hK => ?_); simp (maxSteps := 2000000) (disch := omega) only [push_cast, ↓Int.cast_ofNat_Int, simprocAttr, hk0, yV]; refine hK _ ?_; clear hK K
  refine yD rfl ?_
  refine zE ?_; refine zJ (fun K hK => ?_); simp (maxSteps := 2000000) (disch := omega) only [push_cast, ↓Int.cast_ofNat_Int, simprocAttr]; refine hK _ ?_; clear hK K
  refine eD 6 9000 68 3 rfl (by simp only [dR, eZ, fA, cB, bH, aR, aP, cF, aU, aT, aS, cJ, cA, bZ, bG, bC, bD, cQ, cD, dA, cP, Nat.reduceBEq, Nat.reduceEqDiff, reduceIte, cond_true, cond_false, List.map_cons, List.map_nil]; exact rfl) ?_
  refine zW ?_; refine zK ?_
  simp only [yA, yM, yH, yE, aA, aC, yK, yJ, zS, zM, Nat.reduceEqDiff, reduceIte, reduceCtorEq]
  exact fP rfl (aV []) ⟨by rw [hE], by rw [vM, hE]; rfl⟩
 have hE : eW t p (k, d) = 0 := hgo.trans (if_neg h4)
 have hT : vM t p (k, d) = sortS (qB9 t p (k, d)) := by rw [vM, if_pos hE]
 refine jR (fun _ : Unit => ⟨[(0, .lst false (aH t)), (1, .v (.string p)), (5, .ptr 40 2 0 0), (69, .v (.bool false))], [(40, .bx true 24 [.v (.int .i64 k), .v (.string d)])]⟩) (fun _ => True) [0, 1, 5, 69] [40] ?_ ?_
 ·by_cases hk : k = 0
  ·have hk0 : decide (k = 0) = true := decide_eq_true hk
   refine zJ (fun K hK => ?_); simp (maxSteps := 2000000) (disch := omega) only [push_cast, ↓Int.cast_ofNat_Int, simprocAttr, hk0]; refine hK _ ?_; clear hK K
   exact ⟨(), by simp only [zZ, zR, zP, zQ, zN, zS, zM, zX, zU, Nat.reduceEqDiff, reduceIte]; try rfl, trivial⟩
  ·have hk0 : decide (k = 0) = false := decide_eq_false hk
   cases th : dD t p with
   | true =>
    refine zJ (fun K hK => ?_); simp (maxSteps := 2000000) (disch := omega) only [push_cast, ↓Int.cast_ofNat_Int, simprocAttr, hk0]; refine hK _ ?_; clear hK K
    exact ⟨(), by simp only [zZ, zR, zP, zQ, zN, zS, zM, zX, zU, Nat.reduceEqDiff, reduceIte]; try rfl, trivial⟩
   | false =>
    have h200 : ¬ 200 ≤ t.length := fun h => h4 ⟨hk, th, h⟩
    refine zJ (fun K hK => ?_); simp (maxSteps := 2000000) (disch := omega) only [push_cast, ↓Int.cast_ofNat_Int, simprocAttr, hk0, yV]; refine hK _ ?_; clear hK K
    exact ⟨(), by simp only [zZ, zR, zP, zQ, zN, zS, zM, zX, zU, Nat.reduceEqDiff, reduceIte]; try rfl, trivial⟩
 intro S' _ hE' _
 refine zA ?_
 refine yB [0, 1, 5, 69] [40] hE' ?_
 clear hE'
 refine yC rfl ?_
 refine zC ?_; refine zE ?_
 refine zJ (fun K hK => ?_); simp (maxSteps := 2000000) (disch := omega) only [push_cast, ↓Int.cast_ofNat_Int, simprocAttr]; refine hK _ ?_; clear hK K
 refine zE ?_; refine zE ?_; refine zJ (fun K hK => ?_); simp (maxSteps := 2000000) (disch := omega) only [push_cast, ↓Int.cast_ofNat_Int, simprocAttr]; refine hK _ ?_; clear hK K
 refine zA ?_; refine zD ?_
 refine eD 10 9000 68 3 rfl (by simp only [dR, eZ, fA, cB, bH, aR, aP, cF, aU, aT, aS, cJ, cA, bZ, bG, bC, bD, cQ, cD, dA, cP, Nat.reduceBEq, Nat.reduceEqDiff, reduceIte, cond_true, cond_false, List.map_cons, List.map_nil]; exact rfl) ?_
 refine bM (fun x : Nat × List Ent => ⟨[(0, .lst false (aH t)), (1, .v (.string p)), (5, .ptr 40 2 0 0), (10, .own 9000), (11, .v (.int .i64 x.1))], [(9000, aY x.2), (40, .bx true 24 [.v (.int .i64 k), .v (.string d)])]⟩) (fun x => x.1 ≤ t.length ∧ x.2 = (t.take x.1).filter fun e => !decide (e.1 = p)) (fun x => t.length - x.1) [0, 1, 5, 10, 11] [9000, 40] (0, []) (by simp only [zZ, zR, zP, zQ, zN, zS, zM, zX, zU, Nat.reduceEqDiff, reduceIte]; rfl) ⟨Nat.zero_le _, rfl⟩ ?_
 rintro ⟨i, out⟩ ⟨hi, ho⟩
 simp only at hi ho
 by_cases hlt : i < t.length
 ·have hol : out.length ≤ i := by
   rw [ho]
   refine Nat.le_trans (List.length_filter_le ..) ?_
   rw [List.length_take]; omega
  refine zE ?_; refine zE ?_; refine zJ (fun K hK => ?_); simp (maxSteps := 2000000) (disch := omega) only [push_cast, ↓Int.cast_ofNat_Int, simprocAttr, yV]; refine hK _ ?_; clear hK K
  refine zA ?_
  refine yD rfl ?_
  refine zC ?_; refine zE ?_
  cases hu : decide (t[i].1 = p) with
  | false =>
   refine zD ?_; refine zE ?_; refine zJ (fun K hK => ?_); simp (maxSteps := 2000000) (disch := omega) only [push_cast, ↓Int.cast_ofNat_Int, simprocAttr, yV, yU, yW hlt, hu]; refine hK _ ?_; clear hK K
   have e2 : aH out ++ [[FV.v (.string t[i].1), .v (.int .i64 t[i].2.1), .v (.string t[i].2.2)]] = aH (out ++ [t[i]]) := lY out _ _ _
   refine yD rfl ?_
   refine zJ (fun K hK => ?_); simp (maxSteps := 2000000) (disch := omega) only [push_cast, ↓Int.cast_ofNat_Int, simprocAttr, yV, yU, yW hlt, e2]; (repeat refine ⟨by first | omega | decide | ((repeat' apply And.intro) <;> first | omega | decide), ?_⟩); refine hK _ ?_; clear hK K
   refine zB ?_; refine zA ?_
   refine zJ (fun K hK => ?_); simp (maxSteps := 2000000) (disch := omega) only [push_cast, ↓Int.cast_ofNat_Int, simprocAttr]; refine hK _ ?_; clear hK K
   refine zA ?_
   refine ⟨(i + 1, out ++ [t[i]]), by simp only [zZ, zR, zP, zQ, zN, zS, zM, zX, zU, Nat.reduceEqDiff, reduceIte]; try rfl, ⟨hlt, ?_⟩, by dsimp only; omega⟩
   dsimp only
   rw [List.take_succ_eq_append_getElem hlt, List.filter_append, ← ho]; simp [hu]
  | true =>
   refine zD ?_; refine zE ?_; refine zJ (fun K hK => ?_); simp (maxSteps := 2000000) (disch := omega) only [push_cast, ↓Int.cast_ofNat_Int, simprocAttr, yV, yU, yW hlt, hu]; refine hK _ ?_; clear hK K
   refine yC rfl ?_
   refine zC ?_; refine zB ?_; refine zA ?_
   refine zJ (fun K hK => ?_); simp (maxSteps := 2000000) (disch := omega) only [push_cast, ↓Int.cast_ofNat_Int, simprocAttr]; refine hK _ ?_; clear hK K
   refine zA ?_
   refine ⟨(i + 1, out), by simp only [zZ, zR, zP, zQ, zN, zS, zM, zX, zU, Nat.reduceEqDiff, reduceIte]; try rfl, ⟨hlt, ?_⟩, by dsimp only; omega⟩
   dsimp only
   rw [List.take_succ_eq_append_getElem hlt, List.filter_append, ← ho]; simp [hu]
 ·have hne : i = t.length := by omega
  subst hne
  rw [List.take_length] at ho
  have hol : out.length ≤ t.length := by
   rw [ho]
   exact List.length_filter_le ..
  refine zE ?_; refine zE ?_; refine zJ (fun K hK => ?_); simp (maxSteps := 2000000) (disch := omega) only [push_cast, ↓Int.cast_ofNat_Int, simprocAttr, yV]; refine hK _ ?_; clear hK K
  refine zA ?_
  refine yC rfl ?_
  refine zT ?_; refine zG ?_; refine zG ?_; refine zH ?_; refine zE ?_; refine zE ?_
  by_cases hk : k = 0
  ·have hk0 : decide (k = 0) = true := decide_eq_true hk
   have hL : qB9 t p (k, d) = out := by rw [qB9, if_pos hk, List.append_nil, ← ho]
   rw [hT, hL]
   refine zJ (fun K hK => ?_); simp (maxSteps := 2000000) (disch := omega) only [push_cast, ↓Int.cast_ofNat_Int, simprocAttr, hk0]; refine hK _ ?_; clear hK K
   refine yC rfl ?_
   refine zC ?_; refine zE ?_
   refine zJ (fun K hK => ?_); simp (maxSteps := 2000000) (disch := omega) only [push_cast, ↓Int.cast_ofNat_Int, simprocAttr]
   refine hat 800 zQu (zFr out (by omega)) (.cons (mU (yT _) rfl) .nil) ?_
   rintro _ _ ⟨rfl, rfl⟩
   with_reducible refine aB ?_; simp (maxSteps := 2000000) (disch := omega) only [push_cast, ↓Int.cast_ofNat_Int, simprocAttr]
   refine hK _ ?_; clear hK K
   refine zA ?_; refine zW ?_
   simp only [yA, yM, yH, yE, aA, aC, yK, yJ, zS, zM, Nat.reduceEqDiff, reduceIte, reduceCtorEq]
   exact fP rfl (aV _) ⟨by rw [hE], rfl⟩
  ·have hk0 : decide (k = 0) = false := decide_eq_false hk
   have hL : qB9 t p (k, d) = out ++ [(p, k, d)] := by rw [qB9, if_neg hk, ← ho]
   rw [hT, hL]
   have e2 : aH out ++ [[FV.v (.string p), .v (.int .i64 k), .v (.string d)]] = aH (out ++ [(p, k, d)]) := lY out _ _ _
   refine zJ (fun K hK => ?_); simp (maxSteps := 2000000) (disch := omega) only [push_cast, ↓Int.cast_ofNat_Int, simprocAttr, hk0]; refine hK _ ?_; clear hK K
   refine yD rfl ?_
   refine zJ (fun K hK => ?_); simp (maxSteps := 2000000) (disch := omega) only [push_cast, ↓Int.cast_ofNat_Int, simprocAttr, yV, yU, e2]; (repeat refine ⟨by first | omega | decide | ((repeat' apply And.intro) <;> first | omega | decide), ?_⟩); refine hK _ ?_; clear hK K
   refine zE ?_
   refine zJ (fun K hK => ?_); simp (maxSteps := 2000000) (disch := omega) only [push_cast, ↓Int.cast_ofNat_Int, simprocAttr]
   refine hat 800 zQu (zFr (out ++ [(p, k, d)]) (by simp; omega)) (.cons (mU (yT _) rfl) .nil) ?_
   rintro _ _ ⟨rfl, rfl⟩
   with_reducible refine aB ?_; simp (maxSteps := 2000000) (disch := omega) only [push_cast, ↓Int.cast_ofNat_Int, simprocAttr]
   refine hK _ ?_; clear hK K
   refine zA ?_; refine zW ?_
   simp only [yA, yM, yH, yE, aA, aC, yK, yJ, zS, zM, Nat.reduceEqDiff, reduceIte, reduceCtorEq]
   exact fP rfl (aV _) ⟨by rw [hE], rfl⟩
end Go.Proofs.YtkonlklieacjoaaDoor
