/-
  The reference's hD and kept pairs are the program's.
-/
import Derived.Test.YtmgilahhnbopmaaSteps
set_option linter.unusedSimpArgs false
set_option linter.unusedVariables false
set_option maxRecDepth 20000
namespace Go.Proofs.Ytmgilahhnbopmaa
open Go Go.Eng Go.RowKit Go.DiffM

theorem qFb {s:List Nat} {i:Nat} {d:List FV} (h:i < s.length):(gR (xX s)).getD i d=[.v (.int .i64 (s[i]:Nat))]:=by
 rw [fP (by rw [qFa];exact h)];simp [xX]
theorem qBx (s:List Nat):(gR (xX s)).length=s.length:=by rw [dJ,qFa]
end Go.Proofs.Ytmgilahhnbopmaa
