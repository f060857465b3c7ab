/-
  Nodes and entries compared; which nodes may be; the document's Same, Get.
-/
import Derived.Test.YtdfjeokjmigkaaaGreatTrE
import Derived.Test.YtdfjeokjmigkaaaGreatTrJ
set_option linter.unusedSimpArgs false
set_option linter.unusedVariables false
set_option maxRecDepth 20000
namespace Go.Proofs.YtdfjeokjmigkaaaGreat
open Go Go.Eng Go.RowKit Go.Tr
theorem i3 : (sizeOf 3).run Tryz.prog = fun w => .ok 1 w := by funext w; kernel_rfl
theorem i9 : (sizeOf 9).run Tryz.prog = fun w => .ok 1 w := by funext w; kernel_rfl
theorem i24 : (sizeOf 33).run Tryz.prog = fun w => .ok 2 w := by funext w; kernel_rfl
theorem eqInt (d : Nat) (x y : Int) (w : World) : (Op.equalIn (d + 1) 3 (.int .i64 x) (.int .i64 y)).run Tryz.prog w = .ok (decide (x = y)) w := by
 simp [Op.equalIn, run_underlying Tryz.underlying3]
 by_cases h : x = y <;> simp [h]
theorem st24 : Tryz.prog.stoodInHeld 33 = false := by kernel_rfl
theorem st68 : Tryz.prog.stoodInHeld 50 = false := by kernel_rfl
theorem eqStr (d : Nat) (x y : ByteArray) (w : World) : (Op.equalIn (d + 1) 9 (.string x) (.string y)).run Tryz.prog w = .ok (decide (x = y)) w := by
 unfold Op.equalIn
 simp [run_underlying Tryz.underlying9]
 obtain ⟨a⟩ := x
 obtain ⟨b⟩ := y
 show (a == b) = _
 by_cases h : a = b <;> simp [h]
theorem eqNode (d : Nat) (x y : Int) (s t : ByteArray) (w : World) : (Op.equalIn (d + 2) 33 (.agg #[.int .i64 x, .string s]) (.agg #[.int .i64 y, .string t])).run Tryz.prog w = .ok (decide (x = y ∧ s = t)) w := by
 unfold Op.equalIn
 simp [run_underlying Tryz.underlying33, st24, i3, i9, part, run_isAgg_scalar kt3, run_isAgg_scalar kt9, eqInt, eqStr, Sem.run_bind]
 have hr : List.range' 0 2 = [0, 1] := rfl
 try rw [hr]
 try simp [run_isAgg_scalar kt3, run_isAgg_scalar kt9, eqInt, eqStr, Sem.run_bind]
 by_cases h1 : x = y <;> by_cases h2 : s = t <;> simp [h1, h2]
theorem eqE (p q : ByteArray) (x y : Int) (s t : ByteArray) : EqR Tryz.prog 50 [.string p, .int .i64 x, .string s].toArray [.string q, .int .i64 y, .string t].toArray (decide ((p, x, s) = (q, y, t))) := by
 refine ⟨by kernel_rfl, fun w => ?_⟩
 unfold Op.equal Op.maxDepth Op.equalIn
 simp [run_underlying Tryz.underlying50, st68, i9, i24, part, run_isAgg_scalar kt9, run_isAgg_agg kt33, eqStr, eqNode, Sem.run_bind]
 by_cases h0 : p = q <;> by_cases h1 : x = y <;> by_cases h2 : s = t <;> simp [h0, h1, h2]
end Go.Proofs.YtdfjeokjmigkaaaGreat
