/- bytes.Equal, for orders. -/
import Derived.Test.YtjlepcfeeicdfaaCKit
set_option autoImplicit false
set_option maxRecDepth 100000
set_option linter.unusedVariables false
namespace Go.Proofs.Ytjlepcfeeicdfaa.L
open Go Go.Abs
end Go.Proofs.Ytjlepcfeeicdfaa.L
