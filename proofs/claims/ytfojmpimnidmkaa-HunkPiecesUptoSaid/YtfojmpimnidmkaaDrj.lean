/-
  Regions that draw their order: what holds of the heads that have run, whichever they are.
-/
import Derived.Test.YtfojmpimnidmkaaGd
set_option linter.unusedSimpArgs false
set_option linter.unusedVariables false
namespace Go.Eng
open Go Go.RowKit
section
variable {P : Program} {N : Nat} {ops : List Oper} {n : Nat} {l : Env} {vs : Nat → Value}
end
section
variable {P : Program} {N : Nat} {Q : Post} {l : Env} {w : World}
end
end Go.Eng
