/- Good of a frame: what the kernel makes of it. -/
import Derived.Test.YthbneddbigclfaaPRead
import Derived.Test.YthbneddbigclfaaGood
set_option autoImplicit false
set_option maxRecDepth 100000
set_option linter.unusedVariables false
set_option linter.unusedSimpArgs false
namespace Go.Proofs.Ythbneddbigclfaa.L
open Go Go.Abs

end Go.Proofs.Ythbneddbigclfaa.L
