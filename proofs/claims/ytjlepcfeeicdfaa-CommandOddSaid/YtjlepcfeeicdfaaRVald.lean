/- The reference's Valid of a DIP's address. -/
import Derived.Test.YtjlepcfeeicdfaaPVal
import Derived.Test.YtjlepcfeeicdfaaAddrB
set_option autoImplicit false
set_option maxRecDepth 100000
set_option linter.unusedVariables false
set_option linter.unusedSimpArgs false
namespace Go.Proofs.Ytjlepcfeeicdfaa.L
open Go Go.Abs

end Go.Proofs.Ytjlepcfeeicdfaa.L
