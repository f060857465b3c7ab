/-
  ref02.Same: are two lists of texts alike?
-/
import Derived.Test.YtfojmpimnidmkaaGc
import Derived.Test.YtfojmpimnidmkaaTyH
set_option linter.unusedSimpArgs false
set_option linter.unusedVariables false
set_option maxRecDepth 20000
namespace Go.Proofs.Ytfojmpimnidmkaa
open Go Go.Eng Go.RowKit

end Go.Proofs.Ytfojmpimnidmkaa
