/- Orders and their bytes: which order bytes are. -/
import Derived.Test.YtjlepcfeeicdfaaCmT
import Derived.Test.YtjlepcfeeicdfaaErK
set_option autoImplicit false
set_option maxRecDepth 100000
set_option linter.unusedVariables false
set_option linter.unusedSimpArgs false
namespace Go.Proofs.Ytjlepcfeeicdfaa.L
open Go Go.Abs

end Go.Proofs.Ytjlepcfeeicdfaa.L
