/-
  Maps beside the engine's state: equations.
-/
import Derived.Test.YtdfjeokjmigkaaaGreatMs
set_option linter.unusedSimpArgs false
set_option linter.unusedVariables false
namespace Go.Eng
open Go Go.RowKit Go.Maps
theorem lookH_true (v : Option Value) (z : Value) : lookH v z true = .tup [hvOf (v.getD z), .v (.bool v.isSome)] := nr rfl
theorem lookH_false (v : Option Value) (z : Value) : lookH v z false = hvOf (v.getD z) := nr rfl
end Go.Eng
