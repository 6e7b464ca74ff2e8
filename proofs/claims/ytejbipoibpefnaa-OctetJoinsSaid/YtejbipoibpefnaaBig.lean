/- law1's big: a number's bytes, the high one first. -/
import Derived.Test.YtejbipoibpefnaaOctB
import Derived.Test.YtejbipoibpefnaaAddrB
set_option autoImplicit false
set_option maxRecDepth 100000
set_option linter.unusedVariables false
set_option linter.unusedSimpArgs false
namespace Go.Proofs.Ytejbipoibpefnaa.L
open Go Go.Abs

end Go.Proofs.Ytejbipoibpefnaa.L
