/-
  The document's Ripe, Same; which three are trees.
-/
import Derived.Test.YtkonlklieacjoaaDoorUnA
set_option linter.unusedSimpArgs false
set_option linter.unusedVariables false
set_option maxRecDepth 20000
namespace Go.Tr
open Go Go.Eng
def all3 (T : Tri) : Bool := decide (checkS T.1 = 0) && (decide (checkS T.2.1 = 0) && decide (checkS T.2.2 = 0))
theorem tri_getD (T : Tri) {i : Nat} (h : i < 3) : (triL T).getD i .junk = .lst false (ents (tr T i)) := by
 rcases three h with rfl | rfl | rfl <;> rfl
end Go.Tr
namespace Go.Proofs.YtkonlklieacjoaaDoor
open Go Go.Eng Go.RowKit Go.Tr
set_option maxHeartbeats 4000000 in
theorem all3_H (T : Tri) (hl : ∀ i, i < 3 → (tr T i).length ≤ 1048576) (hs : ∀ i, i < 3 → ∀ e ∈ tr T i, e.1.size ≤ 1048576) : HFun Tryd.prog 40 [triH T] (fun h st => h = .v (.bool (all3 T))) := by
 refine hfun (N := 19) Tryd.func40 rfl Tryd.ntmps40 Tryd.results40 (by simp) ?_
 obtain ⟨t0, t1, t2⟩ := T
 have c0 := rcheck_H t0 (by have := hl 0 (by omega); simp only [tr] at this; omega) (hs 0 (by omega))
 have c1 := rcheck_H t1 (by have := hl 1 (by omega); simp only [tr] at this; omega) (hs 1 (by omega))
 have c2 := rcheck_H t2 (by have := hl 2 (by omega); simp only [tr] at this; omega) (hs 2 (by omega))
 unfold all3
 dsimp only
 generalize checkS t0 = x0 at *
 generalize checkS t1 = x1 at *
 generalize checkS t2 = x2 at *
 (repeat first | refine zE ?_ | refine zA ?_ | refine zC ?_ | refine zB ?_ | refine zD ?_); refine zJ (fun K hK => ?_); simp (maxSteps := 2000000) (disch := omega) only [push_cast, ↓Int.cast_ofNat_Int, simprocAttr, Int.toNat_natCast]; refine hK _ ?_; clear hK K
 cases h0 : decide (x0 = 0) with
 | false =>
  (repeat first | refine zE ?_ | refine zA ?_ | refine zC ?_ | refine zB ?_ | refine zD ?_); refine zJ (fun K hK => ?_); simp (maxSteps := 2000000) (disch := omega) only [push_cast, ↓Int.cast_ofNat_Int, simprocAttr, Int.toNat_natCast]
  refine hatv cl16 c0 (.cons (lendL (yT _)) .nil) ?_
  with_reducible refine hstop ?_; simp (maxSteps := 2000000) (disch := omega) only [push_cast, ↓Int.cast_ofNat_Int, simprocAttr, Int.toNat_natCast, h0]
  refine hK _ ?_; clear hK K
  (repeat first | refine zK ?_ | refine zG ?_ | refine zH ?_ | refine zF rfl ?_ | refine zL ?_ | refine zB ?_ | refine zE ?_ | refine zA ?_ | refine zC ?_ | refine zT ?_ | refine zW ?_)
  simp only [yA, yM, yH, yE, resH_cell, resC_go, yK, yJ, zS, zM, Nat.reduceEqDiff, reduceIte, reduceCtorEq]
  exact hres_v rfl
 | true =>
  cases h1 : decide (x1 = 0) with
  | false =>
   (repeat first | refine zE ?_ | refine zA ?_ | refine zC ?_ | refine zB ?_ | refine zD ?_); refine zJ (fun K hK => ?_); simp (maxSteps := 2000000) (disch := omega) only [push_cast, ↓Int.cast_ofNat_Int, simprocAttr, Int.toNat_natCast]
   refine hatv cl16 c0 (.cons (lendL (yT _)) .nil) ?_
   with_reducible refine hstop ?_; simp (maxSteps := 2000000) (disch := omega) only [push_cast, ↓Int.cast_ofNat_Int, simprocAttr, Int.toNat_natCast, h0]
   refine hatv cl16 c1 (.cons (lendL (yT _)) .nil) ?_
   with_reducible refine hstop ?_; simp (maxSteps := 2000000) (disch := omega) only [push_cast, ↓Int.cast_ofNat_Int, simprocAttr, Int.toNat_natCast, h1]
   refine hK _ ?_; clear hK K
   (repeat first | refine zK ?_ | refine zG ?_ | refine zH ?_ | refine zF rfl ?_ | refine zL ?_ | refine zB ?_ | refine zE ?_ | refine zA ?_ | refine zC ?_ | refine zT ?_ | refine zW ?_)
   simp only [yA, yM, yH, yE, resH_cell, resC_go, yK, yJ, zS, zM, Nat.reduceEqDiff, reduceIte, reduceCtorEq]
   exact hres_v rfl
  | true =>
   (repeat first | refine zE ?_ | refine zA ?_ | refine zC ?_ | refine zB ?_ | refine zD ?_); refine zJ (fun K hK => ?_); simp (maxSteps := 2000000) (disch := omega) only [push_cast, ↓Int.cast_ofNat_Int, simprocAttr, Int.toNat_natCast]
   refine hatv cl16 c0 (.cons (lendL (yT _)) .nil) ?_
   with_reducible refine hstop ?_; simp (maxSteps := 2000000) (disch := omega) only [push_cast, ↓Int.cast_ofNat_Int, simprocAttr, Int.toNat_natCast, h0]
   refine hatv cl16 c1 (.cons (lendL (yT _)) .nil) ?_
   with_reducible refine hstop ?_; simp (maxSteps := 2000000) (disch := omega) only [push_cast, ↓Int.cast_ofNat_Int, simprocAttr, Int.toNat_natCast, h1]
   refine hatv cl16 c2 (.cons (lendL (yT _)) .nil) ?_
   with_reducible refine hstop ?_; simp (maxSteps := 2000000) (disch := omega) only [push_cast, ↓Int.cast_ofNat_Int, simprocAttr, Int.toNat_natCast]
   refine hK _ ?_; clear hK K
   (repeat first | refine zK ?_ | refine zG ?_ | refine zH ?_ | refine zF rfl ?_ | refine zL ?_ | refine zB ?_ | refine zE ?_ | refine zA ?_ | refine zC ?_ | refine zT ?_ | refine zW ?_)
   simp only [yA, yM, yH, yE, resH_cell, resC_go, yK, yJ, zS, zM, Nat.reduceEqDiff, reduceIte, reduceCtorEq]
   exact hres_v rfl
end Go.Proofs.YtkonlklieacjoaaDoor
