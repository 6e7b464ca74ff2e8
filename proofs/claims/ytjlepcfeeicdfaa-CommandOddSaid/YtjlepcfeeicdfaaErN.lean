/- The reference's Encode: rows. -/
import Derived.Test.YtjlepcfeeicdfaaEnK
set_option autoImplicit false
set_option maxRecDepth 100000
set_option linter.unusedVariables false
set_option linter.unusedSimpArgs false
namespace Go.Proofs.Ytjlepcfeeicdfaa.L
open Go Go.Abs

end Go.Proofs.Ytjlepcfeeicdfaa.L
