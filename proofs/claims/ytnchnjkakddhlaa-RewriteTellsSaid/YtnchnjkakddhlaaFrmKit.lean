/- Frames: what is read of them. -/
import Derived.Test.YtnchnjkakddhlaaBuildKit
import Derived.Test.YtnchnjkakddhlaaAddrB
set_option autoImplicit false
set_option linter.unusedVariables false
set_option linter.unusedSimpArgs false
namespace Go.Proofs.Ytnchnjkakddhlaa.L
open Go Go.Abs

end Go.Proofs.Ytnchnjkakddhlaa.L
