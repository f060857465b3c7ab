/-
  Changes compared; which changes may be; do paths rise.
-/
import Derived.Test.YtkonlklieacjoaaDoorUnA
import Derived.Test.YtkonlklieacjoaaDoorChn
set_option linter.unusedSimpArgs false
set_option linter.unusedVariables false
set_option maxRecDepth 20000
namespace Go.Tr
open Go Go.Eng
def riseC (l : List Chg) : Prop := l.Pairwise fun x y => blt x.p y.p = true
instance : DecidableEq Chg := fun c e => decidable_of_iff (c.p = e.p ∧ c.k = e.k ∧ c.b0 = e.b0 ∧ c.b1 = e.b1 ∧ c.b2 = e.b2 ∧ c.a0 = e.a0 ∧ c.a1 = e.a1 ∧ c.a2 = e.a2) (by cases c; cases e; simp only [Chg.mk.injEq])
end Go.Tr
namespace Go.Proofs.YtkonlklieacjoaaDoor
open Go Go.Eng Go.RowKit Go.Tr
theorem st56 : Tryd.prog.stoodInHeld 56 = false := by kernel_rfl
theorem eqTri (d : Nat) (x0 x1 x2 y0 y1 y2 : Int) (s0 s1 s2 t0 t1 t2 : ByteArray) (w : World) : (Op.equalIn (d + 3) 56 (.agg #[.int .i64 x0, .string s0, .int .i64 x1, .string s1, .int .i64 x2, .string s2]) (.agg #[.int .i64 y0, .string t0, .int .i64 y1, .string t1, .int .i64 y2, .string t2])).run Tryd.prog w = .ok (decide ((x0, s0) = (y0, t0) ∧ (x1, s1) = (y1, t1) ∧ (x2, s2) = (y2, t2))) w := by
 unfold Op.equalIn
 simp [run_underlying Tryd.underlying56, st56, i24, part, run_isAgg_agg kt24, eqNode, Sem.run_bind]
 have hr : List.range' 0 3 = [0, 1, 2] := rfl
 rw [hr]
 by_cases h0 : x0 = y0 ∧ s0 = t0
 ·obtain ⟨rfl, rfl⟩ := h0
  by_cases h1 : x1 = y1 ∧ s1 = t1
  ·obtain ⟨rfl, rfl⟩ := h1
   by_cases h2 : x2 = y2 ∧ s2 = t2
   ·obtain ⟨rfl, rfl⟩ := h2
    simp [run_isAgg_agg kt24, eqNode, Sem.run_bind, i24]
   ·have e2 : decide (x2 = y2 ∧ s2 = t2) = false := decide_eq_false h2
    simp [run_isAgg_agg kt24, eqNode, Sem.run_bind, i24, e2]
    simpa using h2
  ·have e1 : decide (x1 = y1 ∧ s1 = t1) = false := decide_eq_false h1
   simp [run_isAgg_agg kt24, eqNode, Sem.run_bind, i24, e1]
   intro a b; exact absurd ⟨a, b⟩ h1
 ·have e0 : decide (x0 = y0 ∧ s0 = t0) = false := decide_eq_false h0
  simp [run_isAgg_agg kt24, eqNode, Sem.run_bind, i24, e0]
  intro a b; exact absurd ⟨a, b⟩ h0
theorem eq3N (x0 x1 x2 y0 y1 y2 : Int) (s0 s1 s2 t0 t1 t2 : ByteArray) : EqR Tryd.prog 56 [.int .i64 x0, .string s0, .int .i64 x1, .string s1, .int .i64 x2, .string s2].toArray [.int .i64 y0, .string t0, .int .i64 y1, .string t1, .int .i64 y2, .string t2].toArray (decide ((x0, s0) = (y0, t0) ∧ (x1, s1) = (y1, t1) ∧ (x2, s2) = (y2, t2))) := ⟨by kernel_rfl, fun w => eqTri _ _ _ _ _ _ _ _ _ _ _ _ _ w⟩
end Go.Proofs.YtkonlklieacjoaaDoor
