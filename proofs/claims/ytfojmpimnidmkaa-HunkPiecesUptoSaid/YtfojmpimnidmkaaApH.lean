/-
  What is known of ref02.Apart: rows that share no memory are told apart.
-/
import Derived.Test.YtfojmpimnidmkaaApt
set_option linter.unusedSimpArgs false
set_option linter.unusedVariables false
set_option maxRecDepth 20000
namespace Go.Proofs.Ytfojmpimnidmkaa
open Go Go.Eng Go.RowKit
end Go.Proofs.Ytfojmpimnidmkaa
