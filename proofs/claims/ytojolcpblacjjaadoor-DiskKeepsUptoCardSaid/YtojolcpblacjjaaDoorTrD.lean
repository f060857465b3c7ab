/-
  Entries as values; strings.Compare, the search in a tree, tree.Get.
-/
import Derived.Test.YtojolcpblacjjaaDoorTrC
import Derived.Test.YtojolcpblacjjaaDoorGc
import Derived.Test.YtojolcpblacjjaaDoorTyK
import Derived.Test.YtojolcpblacjjaaDoorShpK
set_option linter.unusedSimpArgs false
set_option linter.unusedVariables false
set_option maxRecDepth 20000
namespace Go.Tr
open Go Go.Eng Go.RowKit
end Go.Tr
namespace Go.Proofs.YtojolcpblacjjaaDoor
open Go Go.Eng Go.RowKit Go.Tr
end Go.Proofs.YtojolcpblacjjaaDoor
