/-
  tree.Put.
-/
import Derived.Test.YtkonlklieacjoaaDoorTpC
set_option linter.unusedSimpArgs false
set_option linter.unusedVariables false
set_option maxRecDepth 20000
namespace Go.Tr
open Go Go.Eng
def qGq (t : List Ent) (p : ByteArray) : Bool := decide (par p = { data := #[] }) || decide ((bW t (par p)).1 = 1)
def eW (t : List Ent) (p : ByteArray) (n : Int × ByteArray) : Int :=
 if pOk p 5 = false then 10
 else if bL n = false then 1
 else if (if n.1 = 0 then dD t p else qGq t p) = false then 11
 else if n.1 ≠ 1 ∧ 1 < (t.filter fun e => jT e.1 p).length then 12
 else if n.1 ≠ 0 ∧ dD t p = false ∧ 200 ≤ t.length then 4
 else 0
def qNd (t : List Ent) (p : ByteArray) (n : Int × ByteArray) : List Ent :=
 if n.1 = 0 then t.eraseIdx (aQ t p) else if dD t p = true then t.set (aQ t p) (p, n) else t.take (aQ t p) ++ (p, n) :: t.drop (aQ t p)
def jB (t : List Ent) (p : ByteArray) (n : Int × ByteArray) : List Ent := if eW t p n = 0 then qNd t p n else []
theorem qGh {t : List Ent} {p : ByteArray} {n : Int × ByteArray} (ok : pOk p 5 = true) (wh : bL n = true) (hg : (if n.1 = 0 then dD t p else qGq t p) = true) :
  eW t p n = if n.1 ≠ 1 ∧ 1 < (t.filter fun e => jT e.1 p).length then 12 else if n.1 ≠ 0 ∧ dD t p = false ∧ 200 ≤ t.length then 4 else 0 := by
 rw [eW, if_neg (by rw [ok]; decide), if_neg (by rw [wh]; decide), if_neg (by rw [hg]; decide)]
end Go.Tr
namespace Go.Proofs.YtkonlklieacjoaaDoor
open Go Go.Eng Go.RowKit Go.Tr
set_option maxHeartbeats 8000000 in
theorem zP9 (t : List Ent) (p : ByteArray) (n : Int × ByteArray) (ri : gU t) (hl : t.length ≤ 1048576) (sz : p.size ≤ 1048576) (szt : ∀ e ∈ t, e.1.size ≤ 1048576) : HFun Tryd.prog 20 [.lst false (aH t), .v (.string p), nL n] (fun h st => h = .tup [.own 0, .v (.int .i64 (eW t p n))] ∧ st = [(0, aY (jB t p n))]) := by
 obtain ⟨k, d⟩ := n
 refine eK (N := 80) Tryd.func20 rfl Tryd.ntmps20 Tryd.results20 (by simp) ?_
 have c50 : HFun Tryd.prog 50 [.v (.string p), .v (.int .i64 5)] (fun h st => h = .v (.int .i64 (okN (pOk p 5)))) := zGo p 5 sz (by omega)
 have c17 := zKe (k, d)
 have c53 := zJb t p ri (by omega)
 have c51 := zGq p sz
 have c25 := zM5 t (par p) ri (by omega)
 have c24 := zP5 t p (by omega) szt sz
 have pl := qCm t p
 have tp := fC ri p
 refine zE ?_; refine zJ (fun K hK => ?_); simp (maxSteps := 2000000) (disch := omega) only [push_cast, ↓Int.cast_ofNat_Int, simprocAttr]; refine hK _ ?_; clear hK K
 cases ok : pOk p 5 with
 | false =>
  have hE : eW t p (k, d) = 10 := by simp [eW, ok]
  rw [ok, zG2] at c50
  refine zE ?_; refine zE ?_; refine zJ (fun K hK => ?_); simp (maxSteps := 2000000) (disch := omega) only [push_cast, ↓Int.cast_ofNat_Int, simprocAttr]
  refine bV zQy c50 (.cons (.v _) (.cons (.v _) .nil)) ?_
  with_reducible refine aB ?_; simp (maxSteps := 2000000) (disch := omega) only [push_cast, ↓Int.cast_ofNat_Int, simprocAttr]
  refine hK _ ?_; clear hK K
  refine yD rfl ?_
  refine zE ?_; refine zJ (fun K hK => ?_); simp (maxSteps := 2000000) (disch := omega) only [push_cast, ↓Int.cast_ofNat_Int, simprocAttr]; refine hK _ ?_; clear hK K
  refine eD 6 9000 68 3 rfl (by simp only [dR, eZ, fA, cB, bH, aR, aP, cF, aU, aT, aS, cJ, cA, bZ, bG, bC, bD, cQ, cD, dA, cP, Nat.reduceBEq, Nat.reduceEqDiff, reduceIte, cond_true, cond_false, List.map_cons, List.map_nil]; exact rfl) ?_
  refine zW ?_; refine zK ?_
  simp only [yA, yM, yH, yE, aA, aC, yK, yJ, zS, zM, Nat.reduceEqDiff, reduceIte, reduceCtorEq]
  exact fP rfl (aV []) ⟨by rw [hE], by rw [jB, hE]; rfl⟩
 | true =>
 rw [ok, zG1] at c50
 refine zE ?_; refine zE ?_; refine zJ (fun K hK => ?_); simp (maxSteps := 2000000) (disch := omega) only [push_cast, ↓Int.cast_ofNat_Int, simprocAttr]
 refine bV zQy c50 (.cons (.v _) (.cons (.v _) .nil)) ?_
 with_reducible refine aB ?_; simp (maxSteps := 2000000) (disch := omega) only [push_cast, ↓Int.cast_ofNat_Int, simprocAttr]
 refine hK _ ?_; clear hK K
 refine yC rfl ?_
 refine zC ?_; refine zE ?_; refine zE ?_
 cases wh : bL (k, d) with
 | false =>
  have hE : eW t p (k, d) = 1 := by simp [eW, ok, wh]
  rw [wh] at c17
  refine zJ (fun K hK => ?_); simp (maxSteps := 2000000) (disch := omega) only [push_cast, ↓Int.cast_ofNat_Int, simprocAttr]
  refine bV zQ3 c17 (.cons (bB (n := (k, d))) .nil) ?_
  with_reducible refine aB ?_; simp (maxSteps := 2000000) (disch := omega) only [push_cast, ↓Int.cast_ofNat_Int, simprocAttr]
  refine hK _ ?_; clear hK K
  refine yD rfl ?_
  refine zE ?_; refine zJ (fun K hK => ?_); simp (maxSteps := 2000000) (disch := omega) only [push_cast, ↓Int.cast_ofNat_Int, simprocAttr]; refine hK _ ?_; clear hK K
  refine eD 6 9000 68 3 rfl (by simp only [dR, eZ, fA, cB, bH, aR, aP, cF, aU, aT, aS, cJ, cA, bZ, bG, bC, bD, cQ, cD, dA, cP, Nat.reduceBEq, Nat.reduceEqDiff, reduceIte, cond_true, cond_false, List.map_cons, List.map_nil]; exact rfl) ?_
  refine zW ?_; refine zK ?_
  simp only [yA, yM, yH, yE, aA, aC, yK, yJ, zS, zM, Nat.reduceEqDiff, reduceIte, reduceCtorEq]
  exact fP rfl (aV []) ⟨by rw [hE], by rw [jB, hE]; rfl⟩
 | true =>
 rw [wh] at c17
 refine zJ (fun K hK => ?_); simp (maxSteps := 2000000) (disch := omega) only [push_cast, ↓Int.cast_ofNat_Int, simprocAttr]
 refine bV zQ3 c17 (.cons (bB (n := (k, d))) .nil) ?_
 with_reducible refine aB ?_; simp (maxSteps := 2000000) (disch := omega) only [push_cast, ↓Int.cast_ofNat_Int, simprocAttr]
 refine hK _ ?_; clear hK K
 refine yC rfl ?_
 refine zC ?_; refine zE ?_
 refine zJ (fun K hK => ?_); simp (maxSteps := 2000000) (disch := omega) only [push_cast, ↓Int.cast_ofNat_Int, simprocAttr]
 refine zNx (xs := [.int .i64 (aQ t p), .bool (dD t p)]) zQw c53 (.cons (aN (yT _)) (.cons (.v _) .nil)) ?_
 with_reducible refine aB ?_; simp (maxSteps := 2000000) (disch := omega) only [push_cast, ↓Int.cast_ofNat_Int, simprocAttr]
 refine hK _ ?_; clear hK K
 cases hgood : (if k = 0 then dD t p else qGq t p) with
 | false =>
  have hE : eW t p (k, d) = 11 := by simp only [eW, ok, wh, hgood]; simp
  by_cases hk : k = 0
  ·rw [if_pos hk] at hgood
   have hk0 : decide (k = 0) = true := decide_eq_true hk
   refine zE ?_; refine zE ?_; refine zJ (fun K hK => ?_); simp (maxSteps := 2000000) (disch := omega) only [push_cast, ↓Int.cast_ofNat_Int, simprocAttr, hk0]; refine hK _ ?_; clear hK K
   refine yC rfl ?_
   refine zE ?_; refine zJ (fun K hK => ?_); simp (maxSteps := 2000000) (disch := omega) only [push_cast, ↓Int.cast_ofNat_Int, simprocAttr, hgood]; refine hK _ ?_; clear hK K
   refine yD rfl ?_
   refine zE ?_; refine zJ (fun K hK => ?_); simp (maxSteps := 2000000) (disch := omega) only [push_cast, ↓Int.cast_ofNat_Int, simprocAttr]; refine hK _ ?_; clear hK K
   refine eD 6 9000 68 3 rfl (by simp only [dR, eZ, fA, cB, bH, aR, aP, cF, aU, aT, aS, cJ, cA, bZ, bG, bC, bD, cQ, cD, dA, cP, Nat.reduceBEq, Nat.reduceEqDiff, reduceIte, cond_true, cond_false, List.map_cons, List.map_nil]; exact rfl) ?_
   refine zW ?_; refine zK ?_
   simp only [yA, yM, yH, yE, aA, aC, yK, yJ, zS, zM, Nat.reduceEqDiff, reduceIte, reduceCtorEq]
   exact fP rfl (aV []) ⟨by rw [hE], by rw [jB, hE]; rfl⟩
  ·rw [if_neg hk] at hgood
   have hk0 : decide (k = 0) = false := decide_eq_false hk
   simp only [qGq, Bool.or_eq_false_iff] at hgood
   obtain ⟨he, hk1⟩ := hgood
   refine zE ?_; refine zE ?_; refine zJ (fun K hK => ?_); simp (maxSteps := 2000000) (disch := omega) only [push_cast, ↓Int.cast_ofNat_Int, simprocAttr, hk0]; refine hK _ ?_; clear hK K
   refine yD rfl ?_
   refine zE ?_; refine zJ (fun K hK => ?_); simp (maxSteps := 2000000) (disch := omega) only [push_cast, ↓Int.cast_ofNat_Int, simprocAttr]
   refine bV zQx c51 (.cons (.v _) .nil) ?_
   with_reducible refine aB ?_; simp (maxSteps := 2000000) (disch := omega) only [push_cast, ↓Int.cast_ofNat_Int, simprocAttr]
   refine hK _ ?_; clear hK K
   generalize bW t (par p) = m at c25 hk1
   obtain ⟨km, dm⟩ := m
   dsimp only at hk1
   refine zE ?_; refine zJ (fun K hK => ?_); simp (maxSteps := 2000000) (disch := omega) only [push_cast, ↓Int.cast_ofNat_Int, simprocAttr, he]
   refine hat 272 zPb c25 (.cons (aN (yT _)) (.cons (.v _) .nil)) ?_
   rintro _ _ ⟨rfl, rfl⟩
   with_reducible refine aB ?_; simp (maxSteps := 2000000) (disch := omega) only [push_cast, ↓Int.cast_ofNat_Int, simprocAttr, he, hk1]
   refine hK _ ?_; clear hK K
   refine yD rfl ?_
   refine zE ?_; refine zJ (fun K hK => ?_); simp (maxSteps := 2000000) (disch := omega) only [push_cast, ↓Int.cast_ofNat_Int, simprocAttr]; refine hK _ ?_; clear hK K
   refine eD 6 9000 68 3 rfl (by simp only [dR, eZ, fA, cB, bH, aR, aP, cF, aU, aT, aS, cJ, cA, bZ, bG, bC, bD, cQ, cD, dA, cP, Nat.reduceBEq, Nat.reduceEqDiff, reduceIte, cond_true, cond_false, List.map_cons, List.map_nil]; exact rfl) ?_
   refine zW ?_; refine zK ?_
   simp only [yA, yM, yH, yE, aA, aC, yK, yJ, zS, zM, Nat.reduceEqDiff, reduceIte, reduceCtorEq]
   exact fP rfl (aV []) ⟨by rw [hE], by rw [jB, hE]; rfl⟩
 | true =>
 obtain ⟨b, hk0⟩ : ∃ b, decide (k = 0) = b := ⟨_, rfl⟩
 refine zE ?_; refine zE ?_; refine zJ (fun K hK => ?_); simp (maxSteps := 2000000) (disch := omega) only [push_cast, ↓Int.cast_ofNat_Int, simprocAttr, hk0]; refine hK _ ?_; clear hK K
 refine jR (fun _ : Unit => ⟨[(0, .lst false (aH t)), (1, .v (.string p)), (5, .ptr 40 2 0 0), (8, .v (.int .i64 (aQ t p))), (9, .v (.bool (dD t p)))], [(40, .bx true 24 [.v (.int .i64 k), .v (.string d)])]⟩) (fun _ => True) [0, 1, 5, 8, 9] [40] ?_ ?_
 ·cases b with
  | true =>
   have hk := of_decide_eq_true hk0
   rw [if_pos hk] at hgood
   refine yC rfl ?_
   refine zE ?_; refine zJ (fun K hK => ?_); simp (maxSteps := 2000000) (disch := omega) only [push_cast, ↓Int.cast_ofNat_Int, simprocAttr, hgood]; refine hK _ ?_; clear hK K
   refine yC rfl ?_
   refine zC ?_
   refine jJ ?_
   exact ⟨(), by simp only [zZ, zR, zP, zQ, zN, zS, zM, zX, zU, Nat.reduceEqDiff, reduceIte, hgood], trivial⟩
  | false =>
   have hk := of_decide_eq_false hk0
   rw [if_neg hk] at hgood
   refine yD rfl ?_
   refine zE ?_; refine zJ (fun K hK => ?_); simp (maxSteps := 2000000) (disch := omega) only [push_cast, ↓Int.cast_ofNat_Int, simprocAttr]
   refine bV zQx c51 (.cons (.v _) .nil) ?_
   with_reducible refine aB ?_; simp (maxSteps := 2000000) (disch := omega) only [push_cast, ↓Int.cast_ofNat_Int, simprocAttr]
   refine hK _ ?_; clear hK K
   cases he : decide (par p = { data := #[] }) with
   | true =>
    refine zE ?_; refine zJ (fun K hK => ?_); simp (maxSteps := 2000000) (disch := omega) only [push_cast, ↓Int.cast_ofNat_Int, simprocAttr, he]; refine hK _ ?_; clear hK K
    refine yC rfl ?_
    refine zC ?_
    refine jJ ?_
    exact ⟨(), by simp only [zZ, zR, zP, zQ, zN, zS, zM, zX, zU, Nat.reduceEqDiff, reduceIte]; try rfl, trivial⟩
   | false =>
    simp only [qGq, he, Bool.false_or] at hgood
    generalize bW t (par p) = m at c25 hgood
    obtain ⟨km, dm⟩ := m
    dsimp only at hgood
    refine zE ?_; refine zJ (fun K hK => ?_); simp (maxSteps := 2000000) (disch := omega) only [push_cast, ↓Int.cast_ofNat_Int, simprocAttr, he]
    refine hat 272 zPb c25 (.cons (aN (yT _)) (.cons (.v _) .nil)) ?_
    rintro _ _ ⟨rfl, rfl⟩
    with_reducible refine aB ?_; simp (maxSteps := 2000000) (disch := omega) only [push_cast, ↓Int.cast_ofNat_Int, simprocAttr, he, hgood]
    refine hK _ ?_; clear hK K
    refine yC rfl ?_
    refine zC ?_
    refine jJ ?_
    exact ⟨(), by simp only [zZ, zR, zP, zQ, zN, zS, zM, zX, zU, Nat.reduceEqDiff, reduceIte]; try rfl, trivial⟩
 intro S' _ hE _
 refine zE ?_; refine zE ?_
 refine yB [0, 1, 5, 8, 9] [40] hE ?_
 clear hE
 clear hk0 b
 skip
 by_cases h12 : k ≠ 1 ∧ 1 < (t.filter fun e => jT e.1 p).length
 ·have hE : eW t p (k, d) = 12 := (qGh (n := (k, d)) ok wh hgood).trans (if_pos h12)
  obtain ⟨hk1, hfl⟩ := h12
  have hkd : decide (k = 1) = false := decide_eq_false hk1
  generalize t.filter (fun e => jT e.1 p) = F at c24 hfl
  refine zJ (fun K hK => ?_); simp (maxSteps := 2000000) (disch := omega) only [push_cast, ↓Int.cast_ofNat_Int, simprocAttr, hkd]
  refine hat 368 zQ1 c24 (.cons (aN (yT _)) (.cons (.v _) .nil)) ?_
  rintro _ _ ⟨rfl, rfl⟩
  with_reducible refine aB ?_; simp (maxSteps := 2000000) (disch := omega) only [push_cast, ↓Int.cast_ofNat_Int, simprocAttr, hkd, yV]
  refine hK _ ?_; clear hK K
  refine yD rfl ?_
  refine zE ?_; refine zJ (fun K hK => ?_); simp (maxSteps := 2000000) (disch := omega) only [push_cast, ↓Int.cast_ofNat_Int, simprocAttr]; refine hK _ ?_; clear hK K
  refine eD 6 9000 68 3 rfl (by simp only [dR, eZ, fA, cB, bH, aR, aP, cF, aU, aT, aS, cJ, cA, bZ, bG, bC, bD, cQ, cD, dA, cP, Nat.reduceBEq, Nat.reduceEqDiff, reduceIte, cond_true, cond_false, List.map_cons, List.map_nil]; exact rfl) ?_
  refine zW ?_; refine zK ?_
  simp only [yA, yM, yH, yE, aA, aC, yK, yJ, zS, zM, Nat.reduceEqDiff, reduceIte, reduceCtorEq]
  exact fP rfl (aV []) ⟨by rw [hE], by rw [jB, hE]; rfl⟩
 refine jR (fun _ : Unit => ⟨[(0, .lst false (aH t)), (1, .v (.string p)), (5, .ptr 40 2 0 0), (8, .v (.int .i64 (aQ t p))), (9, .v (.bool (dD t p))), (49, .v (.bool false))], [(40, .bx true 24 [.v (.int .i64 k), .v (.string d)])]⟩) (fun _ => True) [0, 1, 5, 8, 9, 49] [40] ?_ ?_
 ·by_cases hk1 : k = 1
  ·have hkd : decide (k = 1) = true := decide_eq_true hk1
   refine zJ (fun K hK => ?_); simp (maxSteps := 2000000) (disch := omega) only [push_cast, ↓Int.cast_ofNat_Int, simprocAttr, hkd]; refine hK _ ?_; clear hK K
   exact ⟨(), by simp only [zZ, zR, zP, zQ, zN, zS, zM, zX, zU, Nat.reduceEqDiff, reduceIte]; try rfl, trivial⟩
  ·have hkd : decide (k = 1) = false := decide_eq_false hk1
   have hfl : ¬ 1 < (t.filter fun e => jT e.1 p).length := fun h => h12 ⟨hk1, h⟩
   generalize t.filter (fun e => jT e.1 p) = F at c24 hfl
   refine zJ (fun K hK => ?_); simp (maxSteps := 2000000) (disch := omega) only [push_cast, ↓Int.cast_ofNat_Int, simprocAttr, hkd]
   refine hat 368 zQ1 c24 (.cons (aN (yT _)) (.cons (.v _) .nil)) ?_
   rintro _ _ ⟨rfl, rfl⟩
   with_reducible refine aB ?_; simp (maxSteps := 2000000) (disch := omega) only [push_cast, ↓Int.cast_ofNat_Int, simprocAttr, hkd, yV]
   refine hK _ ?_; clear hK K
   exact ⟨(), by simp only [zZ, zR, zP, zQ, zN, zS, zM, zX, zU, Nat.reduceEqDiff, reduceIte]; try rfl, trivial⟩
 intro S' _ hE _
 refine zA ?_
 refine yB [0, 1, 5, 8, 9, 49] [40] hE ?_
 clear hE
 refine yC rfl ?_
 refine zC ?_; refine zE ?_
 refine zJ (fun K hK => ?_); simp (maxSteps := 2000000) (disch := omega) only [push_cast, ↓Int.cast_ofNat_Int, simprocAttr]
 refine hat 408 zQv (zCu t (by omega)) (.cons (aN (yT _)) .nil) ?_
 rintro _ _ ⟨rfl, rfl⟩
 with_reducible refine aB ?_; simp (maxSteps := 2000000) (disch := omega) only [push_cast, ↓Int.cast_ofNat_Int, simprocAttr]
 refine hK _ ?_; clear hK K
 have hgo := (qGh (n := (k, d)) ok wh hgood).trans (if_neg h12)
 by_cases hk : k = 0
 ·have hk0 : decide (k = 0) = true := decide_eq_true hk
  rw [if_pos hk] at hgood
  have hE : eW t p (k, d) = 0 := hgo.trans (if_neg fun h => h.1 hk)
  have hlt : aQ t p < t.length := by
   rw [hgood] at tp
   exact (of_decide_eq_true tp.symm).1
  have hT : jB t p (k, d) = t.eraseIdx (aQ t p) := by rw [jB, if_pos hE, qNd, if_pos hk]
  refine zE ?_; refine zD ?_; refine zE ?_; refine zJ (fun K hK => ?_); simp (maxSteps := 2000000) (disch := omega) only [push_cast, ↓Int.cast_ofNat_Int, simprocAttr, hk0]; refine hK _ ?_; clear hK K
  refine zA ?_
  refine yD rfl ?_
  refine zJ (fun K hK => ?_); simp (maxSteps := 2000000) (disch := omega) only [push_cast, ↓Int.cast_ofNat_Int, simprocAttr]
  refine zHu 536 [408] zR5 (zJl t (aQ t p) hlt) rfl (by decide) (by decide) (by simp only [push_cast, dM, yF, Option.getD_some, Bool.or_true, Bool.or_false, Bool.and_true, Bool.and_false, Option.map_some, Option.map_none, Nat.zero_add, simprocAttr]; try rfl) (by simp only [push_cast, dM, yF, Option.getD_some, Bool.or_true, Bool.or_false, Bool.and_true, Bool.and_false, Option.map_some, Option.map_none, Nat.zero_add, simprocAttr]; try rfl) ?_
  rintro _ _ ⟨rfl, rfl⟩
  refine aB ?_; simp (maxSteps := 2000000) (disch := omega) only [push_cast, ↓Int.cast_ofNat_Int, simprocAttr, Option.getD_some, Bool.or_true, Bool.or_false, Bool.and_true, Bool.and_false, Nat.zero_add, dM, yF, Option.map_some, Option.map_none]
  refine hK _ ?_; clear hK K
  refine zB ?_; refine zE ?_
  refine zJ (fun K hK => ?_); simp (maxSteps := 2000000) (disch := omega) only [push_cast, ↓Int.cast_ofNat_Int, simprocAttr]; refine hK _ ?_; clear hK K
  refine zA ?_; refine zW ?_
  simp only [yA, yM, yH, yE, aA, aC, yK, yJ, zS, zM, Nat.reduceEqDiff, reduceIte, reduceCtorEq]
  exact fP rfl (aV _) ⟨by rw [hE], by rw [hT]⟩
 ·have hk0 : decide (k = 0) = false := decide_eq_false hk
  rw [if_neg hk] at hgood
  refine zE ?_; refine zD ?_; refine zE ?_; refine zJ (fun K hK => ?_); simp (maxSteps := 2000000) (disch := omega) only [push_cast, ↓Int.cast_ofNat_Int, simprocAttr, hk0]; refine hK _ ?_; clear hK K
  refine zA ?_
  refine yC rfl ?_
  refine zE ?_
  refine zJ (fun K hK => ?_); simp (maxSteps := 2000000) (disch := omega) only [push_cast, ↓Int.cast_ofNat_Int, simprocAttr]; refine hK _ ?_; clear hK K
  cases th : dD t p with
  | true =>
   have hE : eW t p (k, d) = 0 := hgo.trans (if_neg fun h => by rw [th] at h; cases h.2.1)
   have hlt : aQ t p < t.length := by
    rw [th] at tp
    exact (of_decide_eq_true tp.symm).1
   have hat : t[aQ t p].1 = p := by
    rw [th] at tp
    exact (of_decide_eq_true tp.symm).2
   have hT : jB t p (k, d) = t.set (aQ t p) (p, k, d) := by rw [jB, if_pos hE, qNd, if_neg hk, if_pos th]
   refine yD rfl ?_
   have e9 : (aH t).set (aQ t p) [FV.v (.string t[aQ t p].1), .v (.int .i64 k), .v (.string d)] = aH (t.set (aQ t p) (p, k, d)) := by
    rw [hat, aH, aH, List.map_set]; rfl
   refine zJ (fun K hK => ?_); simp (maxSteps := 2000000) (disch := omega) only [push_cast, ↓Int.cast_ofNat_Int, simprocAttr, yV, yU, yW hlt, e9]; refine hK _ ?_; clear hK K
   refine zB ?_; refine zE ?_
   refine zJ (fun K hK => ?_); simp (maxSteps := 2000000) (disch := omega) only [push_cast, ↓Int.cast_ofNat_Int, simprocAttr]; refine hK _ ?_; clear hK K
   refine zA ?_; refine zW ?_
   simp only [yA, yM, yH, yE, aA, aC, yK, yJ, zS, zM, Nat.reduceEqDiff, reduceIte, reduceCtorEq]
   exact fP rfl (aV _) ⟨by rw [hE], by rw [hT]⟩
  | false =>
   refine yC rfl ?_
   refine zE ?_
   by_cases h200 : 200 ≤ t.length
   ·have hE : eW t p (k, d) = 4 := hgo.trans (if_pos ⟨hk, th, h200⟩)
    refine zJ (fun K hK => ?_); simp (maxSteps := 2000000) (disch := omega) only [push_cast, ↓Int.cast_ofNat_Int, simprocAttr, yV]; refine hK _ ?_; clear hK K
    refine yD rfl ?_
    refine zE ?_; refine zJ (fun K hK => ?_); simp (maxSteps := 2000000) (disch := omega) only [push_cast, ↓Int.cast_ofNat_Int, simprocAttr]; refine hK _ ?_; clear hK K
    refine eD 6 9000 68 3 rfl (by simp only [dR, eZ, fA, cB, bH, aR, aP, cF, aU, aT, aS, cJ, cA, bZ, bG, bC, bD, cQ, cD, dA, cP, Nat.reduceBEq, Nat.reduceEqDiff, reduceIte, cond_true, cond_false, List.map_cons, List.map_nil]; exact rfl) ?_
    refine zW ?_; refine zL ?_; refine zK ?_
    simp only [yA, yM, yH, yE, aA, aC, yK, yJ, zS, zM, Nat.reduceEqDiff, reduceIte, reduceCtorEq]
    exact fP rfl (aV []) ⟨by rw [hE], by rw [jB, hE]; rfl⟩
   ·have hE : eW t p (k, d) = 0 := hgo.trans (if_neg fun h => h200 h.2.2)
    have hT : jB t p (k, d) = t.take (aQ t p) ++ (p, k, d) :: t.drop (aQ t p) := by rw [jB, if_pos hE, qNd, if_neg hk, th]; rfl
    refine zJ (fun K hK => ?_); simp (maxSteps := 2000000) (disch := omega) only [push_cast, ↓Int.cast_ofNat_Int, simprocAttr, yV]; refine hK _ ?_; clear hK K
    refine yC rfl ?_
    skip
    refine zJ (fun K hK => ?_); simp (maxSteps := 2000000) (disch := omega) only [push_cast, ↓Int.cast_ofNat_Int, simprocAttr]
    rw [zJg]
    refine zHu 464 [408, 456] zR4 (zHf t (aQ t p) (p, k, d) pl (by omega)) rfl (by decide) (by decide) (by simp only [push_cast, dM, yF, Option.getD_some, Bool.or_true, Bool.or_false, Bool.and_true, Bool.and_false, Option.map_some, Option.map_none, Nat.zero_add, simprocAttr]; try rfl) (by simp only [push_cast, dM, yF, Option.getD_some, Bool.or_true, Bool.or_false, Bool.and_true, Bool.and_false, Option.map_some, Option.map_none, Nat.zero_add, simprocAttr]; try rfl) ?_
    rintro _ _ ⟨rfl, rfl⟩
    refine aB ?_; simp (maxSteps := 2000000) (disch := omega) only [push_cast, ↓Int.cast_ofNat_Int, simprocAttr, Option.getD_some, Bool.or_true, Bool.or_false, Bool.and_true, Bool.and_false, Nat.zero_add, dM, yF, Option.map_some, Option.map_none]
    refine hK _ ?_; clear hK K
    refine zB ?_; refine zE ?_
    refine zJ (fun K hK => ?_); simp (maxSteps := 2000000) (disch := omega) only [push_cast, ↓Int.cast_ofNat_Int, simprocAttr]; refine hK _ ?_; clear hK K
    refine zA ?_; refine zW ?_
    simp only [yA, yM, yH, yE, aA, aC, yK, yJ, zS, zM, Nat.reduceEqDiff, reduceIte, reduceCtorEq]
    exact fP rfl (aV _) ⟨by rw [hE], by rw [hT]⟩
end Go.Proofs.YtkonlklieacjoaaDoor
