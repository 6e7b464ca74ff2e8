/- IPv4's functions, their answers told. -/
import Derived.Test.YtjkkhbeidhpghaaFour2
import Derived.Test.YtjkkhbeidhpghaaAddrB
import Derived.Test.YtjkkhbeidhpghaaOctB
import Derived.Test.YtjkkhbeidhpghaaBase
set_option autoImplicit false
set_option maxRecDepth 100000
set_option linter.unusedVariables false
namespace Go.Proofs.Ytjkkhbeidhpghaa.L
open Go Go.Abs

end Go.Proofs.Ytjkkhbeidhpghaa.L
