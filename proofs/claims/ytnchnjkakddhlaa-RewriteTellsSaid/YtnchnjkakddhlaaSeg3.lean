/- seg's Good, and the reference's: what the kernel makes of them. -/
import Derived.Test.YtnchnjkakddhlaaPort
set_option autoImplicit false
set_option maxRecDepth 100000
set_option linter.unusedVariables false
set_option linter.unusedSimpArgs false
namespace Go.Proofs.Ytnchnjkakddhlaa.L
open Go Go.Abs

end Go.Proofs.Ytnchnjkakddhlaa.L
