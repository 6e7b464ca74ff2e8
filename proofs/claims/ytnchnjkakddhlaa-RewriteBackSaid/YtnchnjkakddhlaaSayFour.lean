/- IPv4's functions, their answers told. -/
import Derived.Test.YtnchnjkakddhlaaFour2
import Derived.Test.YtnchnjkakddhlaaAddrB
import Derived.Test.YtnchnjkakddhlaaOctB
import Derived.Test.YtnchnjkakddhlaaBase
set_option autoImplicit false
set_option maxRecDepth 100000
set_option linter.unusedVariables false
namespace Go.Proofs.Ytnchnjkakddhlaa.L
open Go Go.Abs

end Go.Proofs.Ytnchnjkakddhlaa.L
