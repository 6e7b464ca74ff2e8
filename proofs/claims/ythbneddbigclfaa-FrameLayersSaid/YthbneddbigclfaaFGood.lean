/- Good of a frame. -/
import Derived.Test.YthbneddbigclfaaFGoodN
import Derived.Test.YthbneddbigclfaaGoodF
set_option autoImplicit false
set_option maxRecDepth 100000
set_option linter.unusedVariables false
set_option linter.unusedSimpArgs false
namespace Go.Proofs.Ythbneddbigclfaa.L
open Go Go.Abs

end Go.Proofs.Ythbneddbigclfaa.L
