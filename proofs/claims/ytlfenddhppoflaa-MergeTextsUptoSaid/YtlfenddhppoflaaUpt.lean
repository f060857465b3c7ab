/- What the walk of the law stands on. -/
import Derived.Test.YtlfenddhppoflaaRows
import Derived.Test.YtlfenddhppoflaaGd
import Derived.JoinedCond
import Derived.Deep.CondSized
set_option linter.unusedVariables false
set_option linter.unusedSimpArgs false
namespace Go.Proofs.Ytlfenddhppoflaa
open Go Go.Eng Go.RowKit Go.ChangeShapes Go.WideShapes Go.ChangeAt
theorem upAll {H : Type} : ∀ (l : List (DataW H)), Rows.uptoBulkAll l = (l.map Rows.uptoBulk).sum
 | [] => by simp [Rows.uptoBulkAll]
 | d :: r => by rw [Rows.uptoBulkAll, upAll r]; rfl
theorem upOne {H : Type} : ∀ (d : DataW H), 1 ≤ Rows.uptoBulk d := fun d => by
 cases d with
 | lit l => cases l <;> simp [Rows.uptoBulk]
 | _ => simp [Rows.uptoBulk]
theorem upBulk {H : Type} : Bulk (H := H) Rows.uptoBulk := by
 refine ⟨upOne, fun b => ?_, fun es rest => ?_, fun xs => ?_⟩
 ·rw [Rows.uptoBulk]; exact Nat.le_refl _
 ·rw [Rows.uptoBulk, upAll]; omega
 ·rw [Rows.uptoBulk, upAll]; omega
theorem upMem {H : Type} {ds gs : List (DataW H)} (hk : Rows.uptoSmall H (ds ++ gs) = true) : (ds.map Rows.uptoBulk).sum ≤ 1048576 := by
 have h : Rows.uptoBulkAll (ds ++ gs) ≤ 1048576 := of_decide_eq_true hk
 rw [upAll, List.map_append, List.sum_append] at h
 omega
theorem fw_str (s : ByteArray) : fw (.v (.string s)) = s.size + 1 := by rw [fw]
end Go.Proofs.Ytlfenddhppoflaa
