/- What the walk of the law stands on. -/
import Derived.Test.YtlfenddhppoflaaGc
import Derived.Test.YtlfenddhppoflaaTyD
set_option linter.unusedSimpArgs false
set_option linter.unusedVariables false
set_option maxRecDepth 20000
namespace Go.Proofs.Ytlfenddhppoflaa
open Go Go.Eng Go.RowKit

end Go.Proofs.Ytlfenddhppoflaa
