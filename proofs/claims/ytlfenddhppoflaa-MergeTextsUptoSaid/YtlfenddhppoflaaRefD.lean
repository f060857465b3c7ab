/- What the walk of the law stands on. -/
import Derived.Test.YtlfenddhppoflaaSteps
set_option linter.unusedSimpArgs false
set_option linter.unusedVariables false
set_option maxRecDepth 20000
namespace Go.Proofs.Ytlfenddhppoflaa
open Go Go.Eng Go.RowKit Go.DiffM

theorem castI_get {s : List Nat} {i : Nat} {d : List FV} (h : i < s.length) : (ints (castL s)).getD i d = [.v (.int .i64 (s[i] : Nat))] := by
 rw [ints_get (by rw [castL_len]; exact h)]; simp [castL]
theorem castI_len (s : List Nat) : (ints (castL s)).length = s.length := by rw [ints_len, castL_len]
end Go.Proofs.Ytlfenddhppoflaa
