/-
  Which records may be; do paths gU; are two lists of changes alike?
-/
import Derived.Test.YtkonlklieacjoaaDoorPln
import Derived.Test.YtkonlklieacjoaaDoorUsb
import Derived.Test.YtkonlklieacjoaaDoorUms
set_option linter.unusedSimpArgs false
set_option linter.unusedVariables false
set_option maxRecDepth 20000
namespace Go.Tr
open Go Go.Eng
abbrev iT (i j k : Int) (L : List Chg) : List HV := [.v (.int .i64 i), .v (.int .i64 j), .v (.int .i64 k), .lst false (chs L)]
abbrev qYe (i j k : Int) (L : List Chg) : HV := .agg (iT i j k L)
def qNc : List Chg → Bool
 | x :: y :: r => blt x.p y.p && qNc (y :: r)
 | _ => true
theorem qHm : ∀ (l : List Chg), qNc l = true ↔ ∀ i (hi : i + 1 < l.length), blt l[i].p l[i + 1].p = true
 | [] => by simp [qNc]
 | [x] => by simp [qNc]
 | x :: y :: r => by
  rw [qNc, Bool.and_eq_true, qHm (y :: r)]
  constructor
  ·rintro ⟨h1, h2⟩ i hi
   cases i with
   | zero => exact h1
   | succ i => exact h2 i (by simpa using hi)
  ·intro h
   exact ⟨h 0 (by simp), fun i hi => h (i + 1) (by simpa using hi)⟩
end Go.Tr
namespace Go.Proofs.YtkonlklieacjoaaDoor
open Go Go.Eng Go.RowKit Go.Tr
theorem rW (n : Int × ByteArray) : HFun Tryd.prog 94 [nL n] (fun h st => h = .v (.bool (bL n))) := by
 obtain ⟨k, d⟩ := n
 refine eK (N := 23) Tryd.func94 rfl Tryd.ntmps94 Tryd.results94 (by simp) ?_
 unfold bL
 dsimp only
 refine zE ?_; refine zJ (fun K hK => ?_); simp (maxSteps := 2000000) (disch := omega) only [push_cast, ↓Int.cast_ofNat_Int, simprocAttr]; refine hK _ ?_; clear hK K
 have e : decide (d = { data := #[] }) = decide (d.size = 0) := qBn d
 by_cases h2 : k = 2
 ·subst h2
  rw [if_pos rfl]
  refine zE ?_; refine zE ?_; refine zJ (fun K hK => ?_); simp (maxSteps := 2000000) (disch := omega) only [push_cast, ↓Int.cast_ofNat_Int, simprocAttr]; refine hK _ ?_; clear hK K
  refine yD rfl ?_
  refine zE ?_; refine zJ (fun K hK => ?_); simp (maxSteps := 2000000) (disch := omega) only [push_cast, ↓Int.cast_ofNat_Int, simprocAttr]; refine hK _ ?_; clear hK K
  refine zA ?_; refine zW ?_; refine zK ?_
  simp only [yA, yM, yH, yE, aA, aC, yK, yJ, zS, zM, Nat.reduceEqDiff, reduceIte, reduceCtorEq]
  exact aK (by first | (simp; done) | (simp; omega))
 rw [if_neg h2]
 refine zE ?_; refine zE ?_; refine zJ (fun K hK => ?_); simp (maxSteps := 2000000) (disch := omega) only [push_cast, ↓Int.cast_ofNat_Int, simprocAttr]; refine hK _ ?_; clear hK K
 refine yC rfl ?_
 refine zC ?_; refine zE ?_
 by_cases h0 : k = 0
 ·subst h0
  refine zJ (fun K hK => ?_); simp (maxSteps := 2000000) (disch := omega) only [push_cast, ↓Int.cast_ofNat_Int, simprocAttr, e]; refine hK _ ?_; clear hK K
  refine zA ?_; refine zW ?_
  simp only [yA, yM, yH, yE, aA, aC, yK, yJ, zS, zM, Nat.reduceEqDiff, reduceIte, reduceCtorEq]
  exact aK (by first | (simp; done) | (simp; omega))
 by_cases h1 : k = 1
 ·subst h1
  refine zJ (fun K hK => ?_); simp (maxSteps := 2000000) (disch := omega) only [push_cast, ↓Int.cast_ofNat_Int, simprocAttr, e]; refine hK _ ?_; clear hK K
  refine zA ?_; refine zW ?_
  simp only [yA, yM, yH, yE, aA, aC, yK, yJ, zS, zM, Nat.reduceEqDiff, reduceIte, reduceCtorEq]
  exact aK (by first | (simp; done) | (simp; omega))
 ·refine zJ (fun K hK => ?_); simp (maxSteps := 2000000) (disch := omega) only [push_cast, ↓Int.cast_ofNat_Int, simprocAttr]; refine hK _ ?_; clear hK K
  refine zA ?_; refine zW ?_
  simp only [yA, yM, yH, yE, aA, aC, yK, yJ, zS, zM, Nat.reduceEqDiff, reduceIte, reduceCtorEq]
  exact aK (by simp [h0, h1])
set_option maxHeartbeats 4000000 in
theorem zFh (i j k : Int) (L : List Chg) (hl : L.length ≤ 1048576) : HFun Tryd.prog 70 [qYe i j k L] (fun h st => h = .v (.bool (qDu L))) := by
 refine eK (N := 38) Tryd.func70 rfl Tryd.ntmps70 Tryd.results70 (by simp) ?_
 refine zE ?_; refine zJ (fun K hK => ?_); simp (maxSteps := 2000000) (disch := omega) only [push_cast, ↓Int.cast_ofNat_Int, simprocAttr]; refine hK _ ?_; clear hK K
 refine zE ?_; refine zE ?_; refine zJ (fun K hK => ?_); simp (maxSteps := 2000000) (disch := omega) only [push_cast, ↓Int.cast_ofNat_Int, simprocAttr]; refine hK _ ?_; clear hK K
 refine zA ?_; refine zD ?_
 refine bM (fun m : Nat => ⟨[(1, .ptr 8 4 0 0), (3, .v (.int .i64 m))], [(8, .bx true 52 (iT i j k L))]⟩) (fun m => m ≤ L.length ∧ qDu (L.take m) = true) (fun m => L.length - m) [1, 3] [8] 0 (by simp only [zZ, zR, zP, zQ, zN, zS, zM, zX, zU, Nat.reduceEqDiff, reduceIte]; try rfl) ⟨Nat.zero_le _, rfl⟩ ?_
 rintro m ⟨hm, hb⟩
 by_cases hlt : m < L.length
 ·refine zE ?_; refine zE ?_; refine zJ (fun K hK => ?_); simp (maxSteps := 2000000) (disch := omega) only [push_cast, ↓Int.cast_ofNat_Int, simprocAttr, aJ]; refine hK _ ?_; clear hK K
  refine zA ?_
  refine yD rfl ?_
  refine zC ?_; refine zE ?_
  refine zD ?_; refine zE ?_; refine zJ (fun K hK => ?_); simp (maxSteps := 2000000) (disch := omega) only [push_cast, ↓Int.cast_ofNat_Int, simprocAttr]; refine hK _ ?_; clear hK K
  refine zA ?_; refine zD ?_
  refine bM (fun q : Nat => ⟨[(1, .ptr 8 4 0 0), (3, .v (.int .i64 m)), (4, .v (.int .i64 q))], [(8, .bx true 52 (iT i j k L))]⟩) (fun q => q ≤ 3 ∧ ∀ p, p < q → (bL (L[m].b p) && bL (L[m].a p)) = true) (fun q => 3 - q) [1, 3, 4] [8] 0 (by simp only [zZ, zR, zP, zQ, zN, zS, zM, zX, zU, Nat.reduceEqDiff, reduceIte]; try rfl) ⟨Nat.zero_le _, fun p hp => by omega⟩ ?_
  rintro q ⟨hq, hp⟩
  by_cases hlq : q < 3
  ·refine zE ?_; refine zE ?_; refine zJ (fun K hK => ?_); simp (maxSteps := 2000000) (disch := omega) only [push_cast, ↓Int.cast_ofNat_Int, simprocAttr]; refine hK _ ?_; clear hK K
   refine zA ?_
   refine yD rfl ?_
   refine zC ?_; refine zE ?_
   have hall : (bL (L[m].b q) && bL (L[m].a q)) = true → ∀ p, p < q + 1 → (bL (L[m].b p) && bL (L[m].a p)) = true := fun h p hpq => by
    by_cases e : p = q
    ·subst e; exact h
    ·exact hp p (by omega)
   have hnot : (bL (L[m].b q) && bL (L[m].a q)) = false → qDu L = false := fun h => List.all_eq_false.2 ⟨L[m], List.getElem_mem hlt, by
    have : qSb L[m] = false := List.all_eq_false.2 ⟨q, List.mem_range.2 hlq, by rw [h]; decide⟩
    rw [this]; decide⟩
   rcases oG hlq with rfl | rfl | rfl
   ·have cb := rW L[m].b0
    have ca := rW L[m].a0
    cases hb0 : bL L[m].b0 with
    | false =>
     rw [hb0] at cb
     have hf := hnot (by show (bL L[m].b0 && _) = false; rw [hb0]; rfl)
     rw [hf]
     refine zD ?_; refine zE ?_; refine zJ (fun K hK => ?_); simp (maxSteps := 2000000) (disch := omega) only [push_cast, ↓Int.cast_ofNat_Int, simprocAttr, aJ, bF, bJ hlt]
     refine bV qBr cb (.cons (bB (n := L[m].b0)) .nil) ?_
     with_reducible refine aB ?_; simp (maxSteps := 2000000) (disch := omega) only [push_cast, ↓Int.cast_ofNat_Int, simprocAttr, aJ, bF, bJ hlt]
     refine hK _ ?_; clear hK K
     refine yD rfl ?_
     refine zE ?_; refine zJ (fun K hK => ?_); simp (maxSteps := 2000000) (disch := omega) only [push_cast, ↓Int.cast_ofNat_Int, simprocAttr]; refine hK _ ?_; clear hK K
     refine zA ?_; refine zW ?_; refine zL ?_; refine zK ?_; refine zK ?_; refine zL ?_; refine zL ?_; refine zK ?_; refine zK ?_; refine zL ?_; refine zK ?_
     simp only [yA, yM, yH, yE, aA, aC, yK, yJ, zS, zM, Nat.reduceEqDiff, reduceIte, reduceCtorEq]
     exact aK rfl
    | true =>
     rw [hb0] at cb
     cases ha0 : bL L[m].a0 with
     | false =>
      rw [ha0] at ca
      have hf := hnot (by show (_ && bL L[m].a0) = false; rw [ha0, Bool.and_false])
      rw [hf]
      refine zD ?_; refine zE ?_; refine zJ (fun K hK => ?_); simp (maxSteps := 2000000) (disch := omega) only [push_cast, ↓Int.cast_ofNat_Int, simprocAttr, aJ, bF, bJ hlt]
      refine bV qBr cb (.cons (bB (n := L[m].b0)) .nil) ?_
      with_reducible refine aB ?_; simp (maxSteps := 2000000) (disch := omega) only [push_cast, ↓Int.cast_ofNat_Int, simprocAttr, aJ, bF, bJ hlt]
      refine bV qBr ca (.cons (bB (n := L[m].a0)) .nil) ?_
      with_reducible refine aB ?_; simp (maxSteps := 2000000) (disch := omega) only [push_cast, ↓Int.cast_ofNat_Int, simprocAttr]
      refine hK _ ?_; clear hK K
      refine yD rfl ?_
      refine zE ?_; refine zJ (fun K hK => ?_); simp (maxSteps := 2000000) (disch := omega) only [push_cast, ↓Int.cast_ofNat_Int, simprocAttr]; refine hK _ ?_; clear hK K
      refine zA ?_; refine zW ?_; refine zL ?_; refine zK ?_; refine zK ?_; refine zL ?_; refine zL ?_; refine zK ?_; refine zK ?_; refine zL ?_; refine zK ?_
      simp only [yA, yM, yH, yE, aA, aC, yK, yJ, zS, zM, Nat.reduceEqDiff, reduceIte, reduceCtorEq]
      exact aK rfl
     | true =>
      rw [ha0] at ca
      refine zD ?_; refine zE ?_; refine zJ (fun K hK => ?_); simp (maxSteps := 2000000) (disch := omega) only [push_cast, ↓Int.cast_ofNat_Int, simprocAttr, aJ, bF, bJ hlt]
      refine bV qBr cb (.cons (bB (n := L[m].b0)) .nil) ?_
      with_reducible refine aB ?_; simp (maxSteps := 2000000) (disch := omega) only [push_cast, ↓Int.cast_ofNat_Int, simprocAttr, aJ, bF, bJ hlt]
      refine bV qBr ca (.cons (bB (n := L[m].a0)) .nil) ?_
      with_reducible refine aB ?_; simp (maxSteps := 2000000) (disch := omega) only [push_cast, ↓Int.cast_ofNat_Int, simprocAttr]
      refine hK _ ?_; clear hK K
      refine yC rfl ?_
      refine zC ?_; refine zB ?_; refine zA ?_
      refine zJ (fun K hK => ?_); simp (maxSteps := 2000000) (disch := omega) only [push_cast, ↓Int.cast_ofNat_Int, simprocAttr]; refine hK _ ?_; clear hK K
      refine zA ?_
      exact ⟨0+1, by simp only [zZ, zR, zP, zQ, zN, zS, zM, zX, zU, Nat.reduceEqDiff, reduceIte]; try rfl, ⟨by omega, hall (by show (bL L[m].b0 && bL L[m].a0) = true; rw [hb0, ha0]; rfl)⟩, by omega⟩
   ·have cb := rW L[m].b1
    have ca := rW L[m].a1
    cases hb0 : bL L[m].b1 with
    | false =>
     rw [hb0] at cb
     have hf := hnot (by show (bL L[m].b1 && _) = false; rw [hb0]; rfl)
     rw [hf]
     refine zD ?_; refine zE ?_; refine zJ (fun K hK => ?_); simp (maxSteps := 2000000) (disch := omega) only [push_cast, ↓Int.cast_ofNat_Int, simprocAttr, aJ, bF, bJ hlt]
     refine bV qBr cb (.cons (bB (n := L[m].b1)) .nil) ?_
     with_reducible refine aB ?_; simp (maxSteps := 2000000) (disch := omega) only [push_cast, ↓Int.cast_ofNat_Int, simprocAttr, aJ, bF, bJ hlt]
     refine hK _ ?_; clear hK K
     refine yD rfl ?_
     refine zE ?_; refine zJ (fun K hK => ?_); simp (maxSteps := 2000000) (disch := omega) only [push_cast, ↓Int.cast_ofNat_Int, simprocAttr]; refine hK _ ?_; clear hK K
     refine zA ?_; refine zW ?_; refine zL ?_; refine zK ?_; refine zK ?_; refine zL ?_; refine zL ?_; refine zK ?_; refine zK ?_; refine zL ?_; refine zK ?_
     simp only [yA, yM, yH, yE, aA, aC, yK, yJ, zS, zM, Nat.reduceEqDiff, reduceIte, reduceCtorEq]
     exact aK rfl
    | true =>
     rw [hb0] at cb
     cases ha0 : bL L[m].a1 with
     | false =>
      rw [ha0] at ca
      have hf := hnot (by show (_ && bL L[m].a1) = false; rw [ha0, Bool.and_false])
      rw [hf]
      refine zD ?_; refine zE ?_; refine zJ (fun K hK => ?_); simp (maxSteps := 2000000) (disch := omega) only [push_cast, ↓Int.cast_ofNat_Int, simprocAttr, aJ, bF, bJ hlt]
      refine bV qBr cb (.cons (bB (n := L[m].b1)) .nil) ?_
      with_reducible refine aB ?_; simp (maxSteps := 2000000) (disch := omega) only [push_cast, ↓Int.cast_ofNat_Int, simprocAttr, aJ, bF, bJ hlt]
      refine bV qBr ca (.cons (bB (n := L[m].a1)) .nil) ?_
      with_reducible refine aB ?_; simp (maxSteps := 2000000) (disch := omega) only [push_cast, ↓Int.cast_ofNat_Int, simprocAttr]
      refine hK _ ?_; clear hK K
      refine yD rfl ?_
      refine zE ?_; refine zJ (fun K hK => ?_); simp (maxSteps := 2000000) (disch := omega) only [push_cast, ↓Int.cast_ofNat_Int, simprocAttr]; refine hK _ ?_; clear hK K
      refine zA ?_; refine zW ?_; refine zL ?_; refine zK ?_; refine zK ?_; refine zL ?_; refine zL ?_; refine zK ?_; refine zK ?_; refine zL ?_; refine zK ?_
      simp only [yA, yM, yH, yE, aA, aC, yK, yJ, zS, zM, Nat.reduceEqDiff, reduceIte, reduceCtorEq]
      exact aK rfl
     | true =>
      rw [ha0] at ca
      refine zD ?_; refine zE ?_; refine zJ (fun K hK => ?_); simp (maxSteps := 2000000) (disch := omega) only [push_cast, ↓Int.cast_ofNat_Int, simprocAttr, aJ, bF, bJ hlt]
      refine bV qBr cb (.cons (bB (n := L[m].b1)) .nil) ?_
      with_reducible refine aB ?_; simp (maxSteps := 2000000) (disch := omega) only [push_cast, ↓Int.cast_ofNat_Int, simprocAttr, aJ, bF, bJ hlt]
      refine bV qBr ca (.cons (bB (n := L[m].a1)) .nil) ?_
      with_reducible refine aB ?_; simp (maxSteps := 2000000) (disch := omega) only [push_cast, ↓Int.cast_ofNat_Int, simprocAttr]
      refine hK _ ?_; clear hK K
      refine yC rfl ?_
      refine zC ?_; refine zB ?_; refine zA ?_
      refine zJ (fun K hK => ?_); simp (maxSteps := 2000000) (disch := omega) only [push_cast, ↓Int.cast_ofNat_Int, simprocAttr]; refine hK _ ?_; clear hK K
      refine zA ?_
      exact ⟨1+1, by simp only [zZ, zR, zP, zQ, zN, zS, zM, zX, zU, Nat.reduceEqDiff, reduceIte]; try rfl, ⟨by omega, hall (by show (bL L[m].b1 && bL L[m].a1) = true; rw [hb0, ha0]; rfl)⟩, by omega⟩
   ·have cb := rW L[m].b2
    have ca := rW L[m].a2
    cases hb0 : bL L[m].b2 with
    | false =>
     rw [hb0] at cb
     have hf := hnot (by show (bL L[m].b2 && _) = false; rw [hb0]; rfl)
     rw [hf]
     refine zD ?_; refine zE ?_; refine zJ (fun K hK => ?_); simp (maxSteps := 2000000) (disch := omega) only [push_cast, ↓Int.cast_ofNat_Int, simprocAttr, aJ, bF, bJ hlt]
     refine bV qBr cb (.cons (bB (n := L[m].b2)) .nil) ?_
     with_reducible refine aB ?_; simp (maxSteps := 2000000) (disch := omega) only [push_cast, ↓Int.cast_ofNat_Int, simprocAttr, aJ, bF, bJ hlt]
     refine hK _ ?_; clear hK K
     refine yD rfl ?_
     refine zE ?_; refine zJ (fun K hK => ?_); simp (maxSteps := 2000000) (disch := omega) only [push_cast, ↓Int.cast_ofNat_Int, simprocAttr]; refine hK _ ?_; clear hK K
     refine zA ?_; refine zW ?_; refine zL ?_; refine zK ?_; refine zK ?_; refine zL ?_; refine zL ?_; refine zK ?_; refine zK ?_; refine zL ?_; refine zK ?_
     simp only [yA, yM, yH, yE, aA, aC, yK, yJ, zS, zM, Nat.reduceEqDiff, reduceIte, reduceCtorEq]
     exact aK rfl
    | true =>
     rw [hb0] at cb
     cases ha0 : bL L[m].a2 with
     | false =>
      rw [ha0] at ca
      have hf := hnot (by show (_ && bL L[m].a2) = false; rw [ha0, Bool.and_false])
      rw [hf]
      refine zD ?_; refine zE ?_; refine zJ (fun K hK => ?_); simp (maxSteps := 2000000) (disch := omega) only [push_cast, ↓Int.cast_ofNat_Int, simprocAttr, aJ, bF, bJ hlt]
      refine bV qBr cb (.cons (bB (n := L[m].b2)) .nil) ?_
      with_reducible refine aB ?_; simp (maxSteps := 2000000) (disch := omega) only [push_cast, ↓Int.cast_ofNat_Int, simprocAttr, aJ, bF, bJ hlt]
      refine bV qBr ca (.cons (bB (n := L[m].a2)) .nil) ?_
      with_reducible refine aB ?_; simp (maxSteps := 2000000) (disch := omega) only [push_cast, ↓Int.cast_ofNat_Int, simprocAttr]
      refine hK _ ?_; clear hK K
      refine yD rfl ?_
      refine zE ?_; refine zJ (fun K hK => ?_); simp (maxSteps := 2000000) (disch := omega) only [push_cast, ↓Int.cast_ofNat_Int, simprocAttr]; refine hK _ ?_; clear hK K
      refine zA ?_; refine zW ?_; refine zL ?_; refine zK ?_; refine zK ?_; refine zL ?_; refine zL ?_; refine zK ?_; refine zK ?_; refine zL ?_; refine zK ?_
      simp only [yA, yM, yH, yE, aA, aC, yK, yJ, zS, zM, Nat.reduceEqDiff, reduceIte, reduceCtorEq]
      exact aK rfl
     | true =>
      rw [ha0] at ca
      refine zD ?_; refine zE ?_; refine zJ (fun K hK => ?_); simp (maxSteps := 2000000) (disch := omega) only [push_cast, ↓Int.cast_ofNat_Int, simprocAttr, aJ, bF, bJ hlt]
      refine bV qBr cb (.cons (bB (n := L[m].b2)) .nil) ?_
      with_reducible refine aB ?_; simp (maxSteps := 2000000) (disch := omega) only [push_cast, ↓Int.cast_ofNat_Int, simprocAttr, aJ, bF, bJ hlt]
      refine bV qBr ca (.cons (bB (n := L[m].a2)) .nil) ?_
      with_reducible refine aB ?_; simp (maxSteps := 2000000) (disch := omega) only [push_cast, ↓Int.cast_ofNat_Int, simprocAttr]
      refine hK _ ?_; clear hK K
      refine yC rfl ?_
      refine zC ?_; refine zB ?_; refine zA ?_
      refine zJ (fun K hK => ?_); simp (maxSteps := 2000000) (disch := omega) only [push_cast, ↓Int.cast_ofNat_Int, simprocAttr]; refine hK _ ?_; clear hK K
      refine zA ?_
      exact ⟨2+1, by simp only [zZ, zR, zP, zQ, zN, zS, zM, zX, zU, Nat.reduceEqDiff, reduceIte]; try rfl, ⟨by omega, hall (by show (bL L[m].b2 && bL L[m].a2) = true; rw [hb0, ha0]; rfl)⟩, by omega⟩
  ·have hq3 : q = 3 := by omega
   subst hq3
   have hc : qSb L[m] = true := List.all_eq_true.2 fun p hpq => hp p (List.mem_range.1 hpq)
   refine zE ?_; refine zE ?_; refine zJ (fun K hK => ?_); simp (maxSteps := 2000000) (disch := omega) only [push_cast, ↓Int.cast_ofNat_Int, simprocAttr]; refine hK _ ?_; clear hK K
   refine zA ?_
   refine yC rfl ?_
   refine zT ?_; refine zG ?_; refine zG ?_; refine zH ?_; refine zB ?_; refine zA ?_
   refine zJ (fun K hK => ?_); simp (maxSteps := 2000000) (disch := omega) only [push_cast, ↓Int.cast_ofNat_Int, simprocAttr]; refine hK _ ?_; clear hK K
   refine zA ?_
   refine ⟨m + 1, by simp only [zZ, zR, zP, zQ, zN, zS, zM, zX, zU, Nat.reduceEqDiff, reduceIte]; try rfl, ⟨hlt, ?_⟩, by omega⟩
   rw [qDu, List.take_succ_eq_append_getElem hlt, List.all_append, show (L.take m).all qSb = true from hb]
   simp [hc]
 ·have hme : m = L.length := by omega
  subst hme
  rw [List.take_length] at hb
  rw [hb]
  refine zE ?_; refine zE ?_; refine zJ (fun K hK => ?_); simp (maxSteps := 2000000) (disch := omega) only [push_cast, ↓Int.cast_ofNat_Int, simprocAttr, aJ]; refine hK _ ?_; clear hK K
  refine zA ?_
  refine yC rfl ?_
  refine zT ?_; refine zG ?_; refine zG ?_; refine zH ?_; refine zE ?_
  refine zJ (fun K hK => ?_); simp (maxSteps := 2000000) (disch := omega) only [push_cast, ↓Int.cast_ofNat_Int, simprocAttr]; refine hK _ ?_; clear hK K
  refine zA ?_; refine zW ?_
  simp only [yA, yM, yH, yE, aA, aC, yK, yJ, zS, zM, Nat.reduceEqDiff, reduceIte, reduceCtorEq]
  exact aK rfl
set_option maxHeartbeats 4000000 in
theorem zF1 (L : List Chg) (hl : L.length ≤ 1048576) : HFun Tryd.prog 41 [.lst false (chs L)] (fun h st => h = .v (.bool (qNc L && qDu L))) := by
 refine eK (N := 25) Tryd.func41 rfl Tryd.ntmps41 Tryd.results41 (by simp) ?_
 refine zE ?_; refine zJ (fun K hK => ?_); simp (maxSteps := 2000000) (disch := omega) only [push_cast, ↓Int.cast_ofNat_Int, simprocAttr]; refine hK _ ?_; clear hK K
 refine zE ?_; refine zE ?_; refine zJ (fun K hK => ?_); simp (maxSteps := 2000000) (disch := omega) only [push_cast, ↓Int.cast_ofNat_Int, simprocAttr]; refine hK _ ?_; clear hK K
 refine zA ?_; refine zD ?_
 refine bM (fun m : Nat => ⟨[(0, .lst false (chs L)), (3, .v (.int .i64 ((m : Int) + 1)))], []⟩) (fun m => (m = 0 ∨ m + 1 ≤ L.length) ∧ ∀ i (hi : i + 1 < L.length), i < m → blt L[i].p L[i + 1].p = true) (fun m => L.length - m) [0, 3] [] 0 (by simp only [zZ, zR, zP, zQ, zN, zS, zM, zX, zU, Nat.reduceEqDiff, reduceIte]; try rfl) ⟨.inl rfl, fun i hi h => by omega⟩ ?_
 rintro m ⟨hm, hb⟩
 have hk0 : ∀ (m : Nat), (m : Int) + 1 - 1 = m := fun m => by omega
 by_cases hlt : m + 1 < L.length
 ·have hlm : m < L.length := by omega
  have hc : ((m : Int) + 1 < (L.length : Int)) := by omega
  refine zE ?_; refine zE ?_; refine zJ (fun K hK => ?_); simp (maxSteps := 2000000) (disch := omega) only [push_cast, ↓Int.cast_ofNat_Int, simprocAttr, aJ, ltT hc]; refine hK _ ?_; clear hK K
  refine zA ?_
  refine yD rfl ?_
  refine zC ?_; refine zE ?_
  cases hbt : blt L[m].p L[m + 1].p with
  | true =>
   have h1 : Op.bytesLess L[m].p.toList L[m + 1].p.toList = true := hbt
   refine zD ?_; refine zE ?_; refine jS 12 mixed (by kernel_rfl) (fun K hK K1 hK1 => ?_); simp (maxSteps := 2000000) (disch := omega) only [push_cast, ↓Int.cast_ofNat_Int, simprocAttr, aJ, bF, hk0, bJ hlm, bJ hlt]
   refine hK1 _ ?_; clear hK1 K1; with_reducible refine aB ?_; simp (maxSteps := 2000000) (disch := omega) only [push_cast, ↓Int.cast_ofNat_Int, simprocAttr, h1]
   refine hK _ ?_; clear hK K
   refine yC rfl ?_
   refine zC ?_; refine zB ?_; refine zA ?_
   refine zJ (fun K hK => ?_); simp (maxSteps := 2000000) (disch := omega) only [push_cast, ↓Int.cast_ofNat_Int, simprocAttr]; refine hK _ ?_; clear hK K
   refine zA ?_
   refine ⟨m + 1, by simp only [zZ, zR, zP, zQ, zN, zS, zM, zX, zU, Nat.reduceEqDiff, reduceIte]; try rfl, ⟨.inr (by omega), fun i hi h => ?_⟩, by omega⟩
   by_cases e : i = m
   ·subst e; exact hbt
   ·exact hb i hi (by omega)
  | false =>
   have h1 : Op.bytesLess L[m].p.toList L[m + 1].p.toList = false := hbt
   have hf : qNc L = false := by
    cases h : qNc L with
    | false => rfl
    | true => rw [(qHm L).1 h m hlt] at hbt; cases hbt
   rw [hf]
   refine zD ?_; refine zE ?_; refine jS 12 mixed (by kernel_rfl) (fun K hK K1 hK1 => ?_); simp (maxSteps := 2000000) (disch := omega) only [push_cast, ↓Int.cast_ofNat_Int, simprocAttr, aJ, bF, hk0, bJ hlm, bJ hlt]
   refine hK1 _ ?_; clear hK1 K1; with_reducible refine aB ?_; simp (maxSteps := 2000000) (disch := omega) only [push_cast, ↓Int.cast_ofNat_Int, simprocAttr, h1]
   refine hK _ ?_; clear hK K
   refine yD rfl ?_
   refine zE ?_; refine zJ (fun K hK => ?_); simp (maxSteps := 2000000) (disch := omega) only [push_cast, ↓Int.cast_ofNat_Int, simprocAttr]; refine hK _ ?_; clear hK K
   refine zA ?_; refine zW ?_; refine zL ?_; refine zK ?_; refine zK ?_; refine zL ?_; refine zK ?_
   simp only [yA, yM, yH, yE, aA, aC, yK, yJ, zS, zM, Nat.reduceEqDiff, reduceIte, reduceCtorEq]
   exact aK rfl
 ·have ht : qNc L = true := (qHm L).2 fun i hi => hb i hi (by omega)
  rw [ht]
  refine zE ?_; refine zE ?_; refine zJ (fun K hK => ?_); simp (maxSteps := 2000000) (disch := omega) only [push_cast, ↓Int.cast_ofNat_Int, simprocAttr, aJ]; refine hK _ ?_; clear hK K
  refine zA ?_
  refine yC rfl ?_
  refine zT ?_; refine zG ?_; refine zG ?_; refine zH ?_; refine zE ?_
  have cw := zFh 0 0 0 L hl
  refine zJ (fun K hK => ?_); simp (maxSteps := 2000000) (disch := omega) only [push_cast, ↓Int.cast_ofNat_Int, simprocAttr]
  refine bV zRy cw (.cons (.agg rfl fun j h1 h2 => ?_) .nil) ?_
  ·match j, h1 with
   | 0, _ => exact .v _
   | 1, _ => exact .v _
   | 2, _ => exact .v _
   | 3, _ => exact aN (iC _)
  with_reducible refine aB ?_; simp (maxSteps := 2000000) (disch := omega) only [push_cast, ↓Int.cast_ofNat_Int, simprocAttr]
  refine hK _ ?_; clear hK K
  refine zA ?_; refine zW ?_
  simp only [yA, yM, yH, yE, aA, aC, yK, yJ, zS, zM, Nat.reduceEqDiff, reduceIte, reduceCtorEq]
  exact aK rfl
set_option maxHeartbeats 4000000 in
theorem zKh (a b : List ByteArray) (ha : a.length ≤ 140737488355328) (hb : b.length ≤ 140737488355328) : HFun Tryd.prog 45 [.lst false (dH a), .lst false (dH b)] (fun h st => h = .v (.bool (decide (a = b)))) := by
 refine eK (N := 8) Tryd.func45 rfl Tryd.ntmps45 Tryd.results45 (by simp) ?_
 have c := zFy a b ha hb
 refine zE ?_; refine zJ (fun K hK => ?_); simp (maxSteps := 2000000) (disch := omega) only [push_cast, ↓Int.cast_ofNat_Int, simprocAttr]; refine hK _ ?_; clear hK K
 refine zE ?_; refine zJ (fun K hK => ?_); simp (maxSteps := 2000000) (disch := omega) only [push_cast, ↓Int.cast_ofNat_Int, simprocAttr]
 refine bV zSa c (.cons (aN (vC _)) (.cons (aN (vC _)) .nil)) ?_
 with_reducible refine aB ?_; simp (maxSteps := 2000000) (disch := omega) only [push_cast, ↓Int.cast_ofNat_Int, simprocAttr]
 refine hK _ ?_; clear hK K
 refine zA ?_; refine zW ?_
 simp only [yA, yM, yH, yE, aA, aC, yK, yJ, zS, zM, Nat.reduceEqDiff, reduceIte, reduceCtorEq]
 exact aK rfl
set_option maxHeartbeats 4000000 in
theorem zKm (a b : List Chg) (ha : a.length ≤ 140737488355328) (hb : b.length ≤ 140737488355328) : HFun Tryd.prog 46 [.lst false (chs a), .lst false (chs b)] (fun h st => h = .v (.bool (decide (a = b)))) := by
 refine eK (N := 26) Tryd.func46 rfl Tryd.ntmps46 Tryd.results46 (by simp) ?_
 refine zE ?_; refine zJ (fun K hK => ?_); simp (maxSteps := 2000000) (disch := omega) only [push_cast, ↓Int.cast_ofNat_Int, simprocAttr]; refine hK _ ?_; clear hK K
 by_cases h : a.length = b.length
 ·refine zE ?_; refine zE ?_; refine zJ (fun K hK => ?_); simp (maxSteps := 2000000) (disch := omega) only [push_cast, ↓Int.cast_ofNat_Int, simprocAttr, aJ]; refine hK _ ?_; clear hK K
  refine yC rfl ?_
  refine zC ?_; refine zE ?_; refine zE ?_
  refine zJ (fun K hK => ?_); simp (maxSteps := 2000000) (disch := omega) only [push_cast, ↓Int.cast_ofNat_Int, simprocAttr]; refine hK _ ?_; clear hK K
  refine zA ?_; refine zD ?_
  refine bM (fun i : Nat => ⟨[(0, .lst false (chs a)), (1, .lst false (chs b)), (5, .v (.int .i64 i))], []⟩) (fun i => i ≤ a.length ∧ a.take i = b.take i) (fun i => a.length - i) [0, 1, 5] [] 0 (by simp only [zZ, zR, zP, zQ, zN, zS, zM, zX, zU, Nat.reduceEqDiff, reduceIte]; try rfl) ⟨Nat.zero_le _, by simp⟩ ?_
  rintro i ⟨hi, he⟩
  by_cases hlt : i < a.length
  ·have hlt2 : i < b.length := by omega
   refine zE ?_; refine zE ?_; refine zJ (fun K hK => ?_); simp (maxSteps := 2000000) (disch := omega) only [push_cast, ↓Int.cast_ofNat_Int, simprocAttr, aJ]; refine hK _ ?_; clear hK K
   refine yD rfl ?_
   refine zC ?_; refine zE ?_
   by_cases heq : a[i] = b[i]
   ·have hd : decide (a[i] = b[i]) = true := decide_eq_true heq
    refine zD ?_; refine zE ?_; refine dQ 9 mixed (by kernel_rfl) (fun K hK K1 hK1 => ?_); simp (maxSteps := 2000000) (disch := omega) only [push_cast, ↓Int.cast_ofNat_Int, simprocAttr, aJ, bF, bJ hlt, bJ hlt2]
    refine ⟨_, eqC a[i] b[i], ?_⟩
    with_reducible refine aB ?_; simp (maxSteps := 2000000) (disch := omega) only [push_cast, ↓Int.cast_ofNat_Int, simprocAttr, hd]
    refine hK1 _ ?_; clear hK1 K1; with_reducible refine aB ?_; simp (maxSteps := 2000000) (disch := omega) only [push_cast, ↓Int.cast_ofNat_Int, simprocAttr, hd]
    refine hK _ ?_; clear hK K
    refine yC rfl ?_
    refine zC ?_; refine zB ?_; refine zA ?_
    refine zJ (fun K hK => ?_); simp (maxSteps := 2000000) (disch := omega) only [push_cast, ↓Int.cast_ofNat_Int, simprocAttr]; refine hK _ ?_; clear hK K
    refine zA ?_
    refine ⟨i + 1, by simp only [zZ, zR, zP, zQ, zN, zS, zM, zX, zU, Nat.reduceEqDiff, reduceIte]; try rfl, ⟨hlt, ?_⟩, by omega⟩
    rw [List.take_succ_eq_append_getElem hlt, List.take_succ_eq_append_getElem hlt2, he, heq]
   ·have hd : decide (a[i] = b[i]) = false := decide_eq_false heq
    have hne : decide (a = b) = false := decide_eq_false (fun e => heq (by subst e; rfl))
    rw [hne]
    refine zD ?_; refine zE ?_; refine dQ 9 mixed (by kernel_rfl) (fun K hK K1 hK1 => ?_); simp (maxSteps := 2000000) (disch := omega) only [push_cast, ↓Int.cast_ofNat_Int, simprocAttr, aJ, bF, bJ hlt, bJ hlt2]
    refine ⟨_, eqC a[i] b[i], ?_⟩
    with_reducible refine aB ?_; simp (maxSteps := 2000000) (disch := omega) only [push_cast, ↓Int.cast_ofNat_Int, simprocAttr, hd]
    refine hK1 _ ?_; clear hK1 K1; with_reducible refine aB ?_; simp (maxSteps := 2000000) (disch := omega) only [push_cast, ↓Int.cast_ofNat_Int, simprocAttr, hd]
    refine hK _ ?_; clear hK K
    refine yD rfl ?_
    refine zE ?_; refine zJ (fun K hK => ?_); simp (maxSteps := 2000000) (disch := omega) only [push_cast, ↓Int.cast_ofNat_Int, simprocAttr]; refine hK _ ?_; clear hK K
    refine zA ?_; refine zW ?_; refine zL ?_; refine zK ?_; refine zK ?_; refine zL ?_; refine zK ?_
    simp only [yA, yM, yH, yE, aA, aC, yK, yJ, zS, zM, Nat.reduceEqDiff, reduceIte, reduceCtorEq]
    exact aK rfl
  ·have hab : a = b := by
    rw [List.take_of_length_le (by omega), List.take_of_length_le (by omega)] at he; exact he
   rw [decide_eq_true hab]
   refine zE ?_; refine zE ?_; refine zJ (fun K hK => ?_); simp (maxSteps := 2000000) (disch := omega) only [push_cast, ↓Int.cast_ofNat_Int, simprocAttr, aJ]; refine hK _ ?_; clear hK K
   refine yC rfl ?_
   refine zT ?_; refine zG ?_; refine zG ?_; refine zH ?_; refine zE ?_
   refine zJ (fun K hK => ?_); simp (maxSteps := 2000000) (disch := omega) only [push_cast, ↓Int.cast_ofNat_Int, simprocAttr]; refine hK _ ?_; clear hK K
   refine zA ?_; refine zW ?_
   simp only [yA, yM, yH, yE, aA, aC, yK, yJ, zS, zM, Nat.reduceEqDiff, reduceIte, reduceCtorEq]
   exact aK rfl
 ·have hne : decide (a = b) = false := decide_eq_false (fun e => h (by rw [e]))
  rw [hne]
  refine zE ?_; refine zE ?_; refine zJ (fun K hK => ?_); simp (maxSteps := 2000000) (disch := omega) only [push_cast, ↓Int.cast_ofNat_Int, simprocAttr, aJ]; refine hK _ ?_; clear hK K
  refine yD rfl ?_
  refine zE ?_; refine zJ (fun K hK => ?_); simp (maxSteps := 2000000) (disch := omega) only [push_cast, ↓Int.cast_ofNat_Int, simprocAttr]; refine hK _ ?_; clear hK K
  refine zA ?_; refine zW ?_; refine zK ?_
  simp only [yA, yM, yH, yE, aA, aC, yK, yJ, zS, zM, Nat.reduceEqDiff, reduceIte, reduceCtorEq]
  exact aK rfl
end Go.Proofs.YtkonlklieacjoaaDoor
