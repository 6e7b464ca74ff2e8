/- Frames that are built. -/
import Derived.Test.YtnchnjkakddhlaaOctB
import Derived.Test.YtnchnjkakddhlaaFour2
import Derived.Test.YtnchnjkakddhlaaSix2
import Derived.Test.YtnchnjkakddhlaaAddrB
set_option autoImplicit false
set_option linter.unusedVariables false
set_option linter.unusedSimpArgs false
namespace Go.Proofs.Ytnchnjkakddhlaa.L
open Go Go.Abs

end Go.Proofs.Ytnchnjkakddhlaa.L
