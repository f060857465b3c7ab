/-
  Nodes and entries compared; which nodes may be; the document's Same, Get.
-/
import Derived.Test.YtkonlklieacjoaaDoorTrE
import Derived.Test.YtkonlklieacjoaaDoorTrJ
set_option linter.unusedSimpArgs false
set_option linter.unusedVariables false
set_option maxRecDepth 20000
namespace Go.Proofs.YtkonlklieacjoaaDoor
open Go Go.Eng Go.RowKit Go.Tr
theorem i3 : (sizeOf 3).run Tryd.prog = fun w => .ok 1 w := by funext w; kernel_rfl
theorem i9 : (sizeOf 9).run Tryd.prog = fun w => .ok 1 w := by funext w; kernel_rfl
theorem i24 : (sizeOf 24).run Tryd.prog = fun w => .ok 2 w := by funext w; kernel_rfl
theorem zJe (d : Nat) (x y : Int) (w : World) : (Op.equalIn (d + 1) 3 (.int .i64 x) (.int .i64 y)).run Tryd.prog w = .ok (decide (x = y)) w := by
 simp [Op.equalIn, run_underlying Tryd.underlying3]
 by_cases h : x = y <;> simp [h]
theorem zRk : Tryd.prog.stoodInHeld 24 = false := by kernel_rfl
theorem zRh : Tryd.prog.stoodInHeld 68 = false := by kernel_rfl
theorem zCm (d : Nat) (x y : ByteArray) (w : World) : (Op.equalIn (d + 1) 9 (.string x) (.string y)).run Tryd.prog w = .ok (decide (x = y)) w := by
 unfold Op.equalIn
 simp [run_underlying Tryd.underlying9]
 obtain ⟨a⟩ := x
 obtain ⟨b⟩ := y
 show (a == b) = _
 by_cases h : a = b <;> simp [h]
theorem qBm (d : Nat) (x y : Int) (s t : ByteArray) (w : World) : (Op.equalIn (d + 2) 24 (.agg #[.int .i64 x, .string s]) (.agg #[.int .i64 y, .string t])).run Tryd.prog w = .ok (decide (x = y ∧ s = t)) w := by
 unfold Op.equalIn
 simp [run_underlying Tryd.underlying24, zRk, i3, i9, part, cK kt3, cK kt9, zJe, zCm, Sem.run_bind]
 have hr : List.range' 0 2 = [0, 1] := rfl
 try rw [hr]
 try simp [cK kt3, cK kt9, zJe, zCm, Sem.run_bind]
 by_cases h1 : x = y <;> by_cases h2 : s = t <;> simp [h1, h2]
theorem eqN (x y : Int) (s t : ByteArray) : EqR Tryd.prog 24 [.int .i64 x, .string s].toArray [.int .i64 y, .string t].toArray (decide (x = y ∧ s = t)) := ⟨by kernel_rfl, fun w => qBm _ x y s t w⟩
theorem eqE (p q : ByteArray) (x y : Int) (s t : ByteArray) : EqR Tryd.prog 68 [.string p, .int .i64 x, .string s].toArray [.string q, .int .i64 y, .string t].toArray (decide ((p, x, s) = (q, y, t))) := by
 refine ⟨by kernel_rfl, fun w => ?_⟩
 unfold Op.equal Op.maxDepth Op.equalIn
 simp [run_underlying Tryd.underlying68, zRh, i9, i24, part, cK kt9, dK qU5, zCm, qBm, Sem.run_bind]
 by_cases h0 : p = q <;> by_cases h1 : x = y <;> by_cases h2 : s = t <;> simp [h0, h1, h2]
end Go.Proofs.YtkonlklieacjoaaDoor
