/-
  The law DiskMoves: a rename is one step: the walk.
-/
import Derived.Test.YtojolcpblacjjaaDoorDkS
set_option linter.unusedSimpArgs false
set_option linter.unusedVariables false
set_option maxRecDepth 20000
namespace Go.Proofs.YtojolcpblacjjaaDoor
open Go Go.Eng Go.RowKit Go.Tr Go.Dk
theorem le_BB : (1073741824 : Int) ≤ 1099511627776 := by decide
end Go.Proofs.YtojolcpblacjjaaDoor
