/- The reference's dip, Dip, DipBytes: rows. -/
import Derived.Test.YtjlepcfeeicdfaaAdK
set_option autoImplicit false
set_option maxRecDepth 100000
set_option linter.unusedVariables false
set_option linter.unusedSimpArgs false
namespace Go.Proofs.Ytjlepcfeeicdfaa.L
open Go Go.Abs

end Go.Proofs.Ytjlepcfeeicdfaa.L
