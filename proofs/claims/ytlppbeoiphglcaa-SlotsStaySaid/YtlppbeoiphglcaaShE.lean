/- Shares of members of one weight. -/
import Derived.Test.YtlppbeoiphglcaaSvT
set_option autoImplicit false
set_option maxRecDepth 100000
set_option linter.unusedVariables false
set_option linter.unusedSimpArgs false
namespace Go.Proofs.Ytlppbeoiphglcaa.L
open Go Go.Abs

end Go.Proofs.Ytlppbeoiphglcaa.L
