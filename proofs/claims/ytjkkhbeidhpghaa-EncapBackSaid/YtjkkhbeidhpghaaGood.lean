/- seg's Good, and the reference's: what they yield. -/
import Derived.Test.YtjkkhbeidhpghaaSeg3
set_option autoImplicit false
set_option maxRecDepth 100000
set_option linter.unusedVariables false
set_option linter.unusedSimpArgs false
namespace Go.Proofs.Ytjkkhbeidhpghaa.L
open Go Go.Abs

end Go.Proofs.Ytjkkhbeidhpghaa.L
