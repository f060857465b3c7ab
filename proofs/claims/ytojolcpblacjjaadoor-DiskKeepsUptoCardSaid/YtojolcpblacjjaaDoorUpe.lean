/-
  Entries and nodes that are handed in, opened; how much they hold.
-/
import Derived.Test.YtojolcpblacjjaaDoorUpt
import Derived.Test.YtojolcpblacjjaaDoorGd
import Derived.Test.YtojolcpblacjjaaDoorTrD
set_option linter.unusedVariables false
set_option linter.unusedSimpArgs false
namespace Go.Proofs.YtojolcpblacjjaaDoor
open Go Go.Eng Go.RowKit Go.ChangeShapes Go.WideShapes Go.ChangeAt Go.Tr
end Go.Proofs.YtojolcpblacjjaaDoor
