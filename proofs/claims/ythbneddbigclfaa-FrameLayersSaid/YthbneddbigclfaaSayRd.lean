/- Read's answer, told. -/
import Derived.Test.YthbneddbigclfaaOctB
set_option autoImplicit false
namespace Go.Proofs.Ythbneddbigclfaa.L
open Go Go.Abs
end Go.Proofs.Ythbneddbigclfaa.L
