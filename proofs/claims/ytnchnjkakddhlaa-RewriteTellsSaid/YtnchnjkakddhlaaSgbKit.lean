/- Segments that were built: how they are read, their sums, another port and address. -/
import Derived.Test.YtnchnjkakddhlaaFrmKit
set_option autoImplicit false
set_option linter.unusedVariables false
set_option linter.unusedSimpArgs false
namespace Go.Proofs.Ytnchnjkakddhlaa.L
open Go Go.Abs


end Go.Proofs.Ytnchnjkakddhlaa.L
