/-
  The law DiskStops: a disk stops where it is armed.
-/
import Derived.Test.YtojolcpblacjjaaDoorDkT
set_option linter.unusedSimpArgs false
set_option linter.unusedVariables false
set_option maxRecDepth 20000
namespace Go.Proofs.YtojolcpblacjjaaDoor
open Go Go.Eng Go.RowKit Go.Tr Go.Dk
end Go.Proofs.YtojolcpblacjjaaDoor
