/-
  The law TreeDiffs.
-/
import Derived.Test.YtbdomkfdkfdfgaaGreatDoorTrQ
import Derived.Test.YtbdomkfdkfdfgaaGreatDoorTrV
import Derived.Test.YtbdomkfdkfdfgaaGreatDoorSrs
import Derived.Test.YtbdomkfdkfdfgaaGreatDoorOne
set_option linter.unusedSimpArgs false
set_option linter.unusedVariables false
set_option maxRecDepth 20000
namespace Go.Proofs.YtbdomkfdkfdfgaaGreatDoor
open Go Go.Eng Go.RowKit Go.Tr
end Go.Proofs.YtbdomkfdkfdfgaaGreatDoor
