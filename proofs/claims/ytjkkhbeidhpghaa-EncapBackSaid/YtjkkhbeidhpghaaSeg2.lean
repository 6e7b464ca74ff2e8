/- seg's Port, and the reference's. -/
import Derived.Test.YtjkkhbeidhpghaaOctB
set_option autoImplicit false
set_option maxRecDepth 100000
set_option linter.unusedVariables false
set_option linter.unusedSimpArgs false
namespace Go.Proofs.Ytjkkhbeidhpghaa.L
open Go Go.Abs

end Go.Proofs.Ytjkkhbeidhpghaa.L
