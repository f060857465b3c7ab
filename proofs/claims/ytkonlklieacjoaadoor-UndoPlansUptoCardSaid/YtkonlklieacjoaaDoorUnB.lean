/-
  The document's Ripe, Same; which oG are trees.
-/
import Derived.Test.YtkonlklieacjoaaDoorUnA
set_option linter.unusedSimpArgs false
set_option linter.unusedVariables false
set_option maxRecDepth 20000
namespace Go.Tr
open Go Go.Eng
def zJ3 (T : Tri) : Bool := decide (nH T.1 = 0) && (decide (nH T.2.1 = 0) && decide (nH T.2.2 = 0))
theorem zFp (T : Tri) {i : Nat} (h : i < 3) : (iR T).getD i .junk = .lst false (aH (tr T i)) := by
 rcases oG h with rfl | rfl | rfl <;> rfl
end Go.Tr
namespace Go.Proofs.YtkonlklieacjoaaDoor
open Go Go.Eng Go.RowKit Go.Tr
set_option maxHeartbeats 4000000 in
theorem qZt (c : Chg) (T : Tri) (hl : ∀ i, i < 3 → (tr T i).length ≤ 1048576) : HFun Tryd.prog 48 [zLo c, uY T] (fun h st => h = .v (.bool (eF c T))) := by
 refine eK (N := 32) Tryd.func48 rfl Tryd.ntmps48 Tryd.results48 (by simp) ?_
 refine zE ?_; refine zJ (fun K hK => ?_); simp (maxSteps := 2000000) (disch := omega) only [push_cast, ↓Int.cast_ofNat_Int, simprocAttr]; refine hK _ ?_; clear hK K
 refine zE ?_; refine zE ?_; refine zJ (fun K hK => ?_); simp (maxSteps := 2000000) (disch := omega) only [push_cast, ↓Int.cast_ofNat_Int, simprocAttr]; refine hK _ ?_; clear hK K
 refine zA ?_; refine zD ?_
 refine bM (fun i : Nat => ⟨[(2, .ptr 16 14 0 0), (3, .ptr 24 3 0 0), (5, .v (.int .i64 i))], [(16, .bx true 58 (lJ c)), (24, .bx true 53 (iR T))]⟩) (fun i => i ≤ 3 ∧ ∀ j, j < i → qHn c T j = true) (fun i => 3 - i) [2, 3, 5] [16, 24] 0 (by simp only [zZ, zR, zP, zQ, zN, zS, zM, zX, zU, Nat.reduceEqDiff, reduceIte]; try rfl) ⟨Nat.zero_le _, fun j hj => by omega⟩ ?_
 rintro i ⟨hi, hb⟩
 by_cases hlt : i < 3
 ·have e1 := qMn c hlt
  have e2 := qMo c hlt
  have e3 := zFp T hlt
  refine zE ?_; refine zE ?_; refine zJ (fun K hK => ?_); simp (maxSteps := 2000000) (disch := omega) only [push_cast, ↓Int.cast_ofNat_Int, simprocAttr]; refine hK _ ?_; clear hK K
  refine zA ?_
  refine yD rfl ?_
  refine zC ?_; refine zE ?_
  have c26 := qSs (tr T i) c.p (by have := hl i hlt; omega)
  have hd : qHn c T i = (decide ((c.b i).1 = (c.a i).1 ∧ (c.b i).2 = (c.a i).2) || decide ((bW (tr T i) c.p).1 = (c.a i).1 ∧ (bW (tr T i) c.p).2 = (c.a i).2)) := by
   rw [qHn, decide_eq_decide.2 Prod.ext_iff, decide_eq_decide.2 (Prod.ext_iff (x := bW (tr T i) c.p))]
  generalize bW (tr T i) c.p = m at c26 hd
  obtain ⟨km, dm⟩ := m
  dsimp only at hd
  generalize c.b i = nb at e1 hd
  generalize c.a i = na at e2 hd
  obtain ⟨kb, db⟩ := nb
  obtain ⟨ka, da⟩ := na
  dsimp only at e1 e2 hd
  cases hq : decide (kb = ka ∧ db = da) with
  | true =>
   rw [hq, Bool.true_or] at hd
   refine zD ?_; refine zE ?_; refine dQ 22 mixed (by kernel_rfl) (fun K hK K1 hK1 => ?_); simp (maxSteps := 2000000) (disch := omega) only [push_cast, ↓Int.cast_ofNat_Int, simprocAttr, e1, e2]
   refine ⟨_, eqN _ _ _ _, ?_⟩
   with_reducible refine aB ?_; simp (maxSteps := 2000000) (disch := omega) only [push_cast, ↓Int.cast_ofNat_Int, simprocAttr, hq]
   refine hK1 _ ?_; clear hK1 K1; with_reducible refine aB ?_; simp (maxSteps := 2000000) (disch := omega) only [push_cast, ↓Int.cast_ofNat_Int, simprocAttr, hq]
   refine hK _ ?_; clear hK K
   refine yC rfl ?_
   refine zC ?_; refine zB ?_; refine zA ?_
   refine zJ (fun K hK => ?_); simp (maxSteps := 2000000) (disch := omega) only [push_cast, ↓Int.cast_ofNat_Int, simprocAttr]; refine hK _ ?_; clear hK K
   refine zA ?_
   refine ⟨i + 1, by simp only [zZ, zR, zP, zQ, zN, zS, zM, zX, zU, Nat.reduceEqDiff, reduceIte]; try rfl, ⟨hlt, fun j hj => ?_⟩, by omega⟩
   by_cases e : j = i
   ·subst e; exact hd
   ·exact hb j (by omega)
  | false =>
   rw [hq, Bool.false_or] at hd
   refine zD ?_; refine zE ?_; refine dQ 22 mixed (by kernel_rfl) (fun K hK K1 hK1 => ?_); simp (maxSteps := 2000000) (disch := omega) only [push_cast, ↓Int.cast_ofNat_Int, simprocAttr, e1, e2]
   refine ⟨_, eqN _ _ _ _, ?_⟩
   with_reducible refine aB ?_; simp (maxSteps := 2000000) (disch := omega) only [push_cast, ↓Int.cast_ofNat_Int, simprocAttr, hq, e3]
   refine zM4 zE6 c26 (.cons (aN (yT _)) (.cons (.v _) .nil)) ?_
   with_reducible refine aB ?_; simp (maxSteps := 2000000) (disch := omega) only [push_cast, ↓Int.cast_ofNat_Int, simprocAttr, hq, e2]
   refine ⟨_, eqN _ _ _ _, ?_⟩
   cases hq2 : decide (km = ka ∧ dm = da) with
   | true =>
    with_reducible refine aB ?_; simp (maxSteps := 2000000) (disch := omega) only [push_cast, ↓Int.cast_ofNat_Int, simprocAttr, hq, hq2]
    refine hK1 _ ?_; clear hK1 K1; with_reducible refine aB ?_; simp (maxSteps := 2000000) (disch := omega) only [push_cast, ↓Int.cast_ofNat_Int, simprocAttr, hq, hq2]
    refine hK _ ?_; clear hK K
    refine yC rfl ?_
    refine zC ?_; refine zB ?_; refine zA ?_
    refine zJ (fun K hK => ?_); simp (maxSteps := 2000000) (disch := omega) only [push_cast, ↓Int.cast_ofNat_Int, simprocAttr]; refine hK _ ?_; clear hK K
    refine zA ?_
    refine ⟨i + 1, by simp only [zZ, zR, zP, zQ, zN, zS, zM, zX, zU, Nat.reduceEqDiff, reduceIte]; try rfl, ⟨hlt, fun j hj => ?_⟩, by omega⟩
    by_cases e : j = i
    ·subst e; rw [hd, hq2]
    ·exact hb j (by omega)
   | false =>
    have hf : eF c T = false := List.all_eq_false.2 ⟨i, List.mem_range.2 hlt, by rw [hd, hq2]; decide⟩
    with_reducible refine aB ?_; simp (maxSteps := 2000000) (disch := omega) only [push_cast, ↓Int.cast_ofNat_Int, simprocAttr, hq, hq2]
    refine hK1 _ ?_; clear hK1 K1; with_reducible refine aB ?_; simp (maxSteps := 2000000) (disch := omega) only [push_cast, ↓Int.cast_ofNat_Int, simprocAttr, hq, hq2]
    refine hK _ ?_; clear hK K
    refine yD rfl ?_
    refine zE ?_; refine zJ (fun K hK => ?_); simp (maxSteps := 2000000) (disch := omega) only [push_cast, ↓Int.cast_ofNat_Int, simprocAttr]; refine hK _ ?_; clear hK K
    refine zA ?_; refine zW ?_; refine zL ?_; refine zK ?_; refine zK ?_; refine zL ?_; refine zK ?_
    simp only [yA, yM, yH, yE, aA, aC, yK, yJ, zS, zM, Nat.reduceEqDiff, reduceIte, reduceCtorEq]
    exact aK (by rw [hf])
 ·have hne : i = 3 := by omega
  subst hne
  have ht : eF c T = true := List.all_eq_true.2 fun j hj => hb j (List.mem_range.1 hj)
  rw [ht]
  refine zE ?_; refine zE ?_; refine zJ (fun K hK => ?_); simp (maxSteps := 2000000) (disch := omega) only [push_cast, ↓Int.cast_ofNat_Int, simprocAttr]; refine hK _ ?_; clear hK K
  refine zA ?_
  refine yC rfl ?_
  refine zT ?_; refine zG ?_; refine zG ?_; refine zH ?_; refine zE ?_
  refine zJ (fun K hK => ?_); simp (maxSteps := 2000000) (disch := omega) only [push_cast, ↓Int.cast_ofNat_Int, simprocAttr]; refine hK _ ?_; clear hK K
  refine zA ?_; refine zW ?_
  simp only [yA, yM, yH, yE, aA, aC, yK, yJ, zS, zM, Nat.reduceEqDiff, reduceIte, reduceCtorEq]
  exact aK rfl
set_option maxHeartbeats 4000000 in
theorem zKn (T U : Tri) (hl : ∀ i, i < 3 → (tr T i).length ≤ 1048576) : HFun Tryd.prog 44 [uY T, uY U] (fun h st => h = .v (.bool (decide (T = U)))) := by
 refine eK (N := 24) Tryd.func44 rfl Tryd.ntmps44 Tryd.results44 (by simp) ?_
 obtain ⟨t0, t1, t2⟩ := T
 obtain ⟨u0, u1, u2⟩ := U
 have l0 := hl 0 (by omega)
 have l1 := hl 1 (by omega)
 have l2 := hl 2 (by omega)
 simp only [tr] at l0 l1 l2
 have c0 := qGf t0 u0 (by omega)
 have c1 := qGf t1 u1 (by omega)
 have c2 := qGf t2 u2 (by omega)
 have hd : decide ((t0, t1, t2) = (u0, u1, u2)) = (decide (t0 = u0) && (decide (t1 = u1) && decide (t2 = u2))) := by
  rw [Bool.eq_iff_iff]; simp
 rw [hd]
 refine zE ?_; refine zJ (fun K hK => ?_); simp (maxSteps := 2000000) (disch := omega) only [push_cast, ↓Int.cast_ofNat_Int, simprocAttr]; refine hK _ ?_; clear hK K
 cases h0 : decide (t0 = u0) with
 | false =>
  rw [h0] at c0
  refine zE ?_; refine zJ (fun K hK => ?_); simp (maxSteps := 2000000) (disch := omega) only [push_cast, ↓Int.cast_ofNat_Int, simprocAttr]
  refine bV qZf c0 (.cons (aN (yT _)) (.cons (aN (yT _)) .nil)) ?_
  with_reducible refine aB ?_; simp (maxSteps := 2000000) (disch := omega) only [push_cast, ↓Int.cast_ofNat_Int, simprocAttr]
  refine hK _ ?_; clear hK K
  refine zA ?_; refine zW ?_
  simp only [yA, yM, yH, yE, aA, aC, yK, yJ, zS, zM, Nat.reduceEqDiff, reduceIte, reduceCtorEq]
  exact aK rfl
 | true =>
  rw [h0] at c0
  cases h1 : decide (t1 = u1) with
  | false =>
   rw [h1] at c1
   refine zE ?_; refine zJ (fun K hK => ?_); simp (maxSteps := 2000000) (disch := omega) only [push_cast, ↓Int.cast_ofNat_Int, simprocAttr]
   refine bV qZf c0 (.cons (aN (yT _)) (.cons (aN (yT _)) .nil)) ?_
   with_reducible refine aB ?_; simp (maxSteps := 2000000) (disch := omega) only [push_cast, ↓Int.cast_ofNat_Int, simprocAttr]
   refine bV qZf c1 (.cons (aN (yT _)) (.cons (aN (yT _)) .nil)) ?_
   with_reducible refine aB ?_; simp (maxSteps := 2000000) (disch := omega) only [push_cast, ↓Int.cast_ofNat_Int, simprocAttr]
   refine hK _ ?_; clear hK K
   refine zA ?_; refine zW ?_
   simp only [yA, yM, yH, yE, aA, aC, yK, yJ, zS, zM, Nat.reduceEqDiff, reduceIte, reduceCtorEq]
   exact aK rfl
  | true =>
   rw [h1] at c1
   refine zE ?_; refine zJ (fun K hK => ?_); simp (maxSteps := 2000000) (disch := omega) only [push_cast, ↓Int.cast_ofNat_Int, simprocAttr]
   refine bV qZf c0 (.cons (aN (yT _)) (.cons (aN (yT _)) .nil)) ?_
   with_reducible refine aB ?_; simp (maxSteps := 2000000) (disch := omega) only [push_cast, ↓Int.cast_ofNat_Int, simprocAttr]
   refine bV qZf c1 (.cons (aN (yT _)) (.cons (aN (yT _)) .nil)) ?_
   with_reducible refine aB ?_; simp (maxSteps := 2000000) (disch := omega) only [push_cast, ↓Int.cast_ofNat_Int, simprocAttr]
   refine bV qZf c2 (.cons (aN (yT _)) (.cons (aN (yT _)) .nil)) ?_
   with_reducible refine aB ?_; simp (maxSteps := 2000000) (disch := omega) only [push_cast, ↓Int.cast_ofNat_Int, simprocAttr]
   refine hK _ ?_; clear hK K
   refine zA ?_; refine zW ?_
   simp only [yA, yM, yH, yE, aA, aC, yK, yJ, zS, zM, Nat.reduceEqDiff, reduceIte, reduceCtorEq]
   exact aK rfl
set_option maxHeartbeats 4000000 in
theorem zPh (T : Tri) (hl : ∀ i, i < 3 → (tr T i).length ≤ 1048576) (hs : ∀ i, i < 3 → ∀ e ∈ tr T i, e.1.size ≤ 1048576) : HFun Tryd.prog 40 [uY T] (fun h st => h = .v (.bool (zJ3 T))) := by
 refine eK (N := 19) Tryd.func40 rfl Tryd.ntmps40 Tryd.results40 (by simp) ?_
 obtain ⟨t0, t1, t2⟩ := T
 have c0 := qHv t0 (by have := hl 0 (by omega); simp only [tr] at this; omega) (hs 0 (by omega))
 have c1 := qHv t1 (by have := hl 1 (by omega); simp only [tr] at this; omega) (hs 1 (by omega))
 have c2 := qHv t2 (by have := hl 2 (by omega); simp only [tr] at this; omega) (hs 2 (by omega))
 unfold zJ3
 dsimp only
 generalize nH t0 = x0 at *
 generalize nH t1 = x1 at *
 generalize nH t2 = x2 at *
 refine zE ?_; refine zJ (fun K hK => ?_); simp (maxSteps := 2000000) (disch := omega) only [push_cast, ↓Int.cast_ofNat_Int, simprocAttr]; refine hK _ ?_; clear hK K
 cases h0 : decide (x0 = 0) with
 | false =>
  refine zE ?_; refine zJ (fun K hK => ?_); simp (maxSteps := 2000000) (disch := omega) only [push_cast, ↓Int.cast_ofNat_Int, simprocAttr]
  refine bV zE7 c0 (.cons (aN (yT _)) .nil) ?_
  with_reducible refine aB ?_; simp (maxSteps := 2000000) (disch := omega) only [push_cast, ↓Int.cast_ofNat_Int, simprocAttr, h0]
  refine hK _ ?_; clear hK K
  refine zA ?_; refine zW ?_
  simp only [yA, yM, yH, yE, aA, aC, yK, yJ, zS, zM, Nat.reduceEqDiff, reduceIte, reduceCtorEq]
  exact aK rfl
 | true =>
  cases h1 : decide (x1 = 0) with
  | false =>
   refine zE ?_; refine zJ (fun K hK => ?_); simp (maxSteps := 2000000) (disch := omega) only [push_cast, ↓Int.cast_ofNat_Int, simprocAttr]
   refine bV zE7 c0 (.cons (aN (yT _)) .nil) ?_
   with_reducible refine aB ?_; simp (maxSteps := 2000000) (disch := omega) only [push_cast, ↓Int.cast_ofNat_Int, simprocAttr, h0]
   refine bV zE7 c1 (.cons (aN (yT _)) .nil) ?_
   with_reducible refine aB ?_; simp (maxSteps := 2000000) (disch := omega) only [push_cast, ↓Int.cast_ofNat_Int, simprocAttr, h1]
   refine hK _ ?_; clear hK K
   refine zA ?_; refine zW ?_
   simp only [yA, yM, yH, yE, aA, aC, yK, yJ, zS, zM, Nat.reduceEqDiff, reduceIte, reduceCtorEq]
   exact aK rfl
  | true =>
   refine zE ?_; refine zJ (fun K hK => ?_); simp (maxSteps := 2000000) (disch := omega) only [push_cast, ↓Int.cast_ofNat_Int, simprocAttr]
   refine bV zE7 c0 (.cons (aN (yT _)) .nil) ?_
   with_reducible refine aB ?_; simp (maxSteps := 2000000) (disch := omega) only [push_cast, ↓Int.cast_ofNat_Int, simprocAttr, h0]
   refine bV zE7 c1 (.cons (aN (yT _)) .nil) ?_
   with_reducible refine aB ?_; simp (maxSteps := 2000000) (disch := omega) only [push_cast, ↓Int.cast_ofNat_Int, simprocAttr, h1]
   refine bV zE7 c2 (.cons (aN (yT _)) .nil) ?_
   with_reducible refine aB ?_; simp (maxSteps := 2000000) (disch := omega) only [push_cast, ↓Int.cast_ofNat_Int, simprocAttr]
   refine hK _ ?_; clear hK K
   refine zA ?_; refine zW ?_
   simp only [yA, yM, yH, yE, aA, aC, yK, yJ, zS, zM, Nat.reduceEqDiff, reduceIte, reduceCtorEq]
   exact aK rfl
end Go.Proofs.YtkonlklieacjoaaDoor
