/- Whether a frame is good. -/
import Derived.Test.YtjkkhbeidhpghaaSayRd
import Derived.Test.YtjkkhbeidhpghaaGood
set_option autoImplicit false
set_option linter.unusedVariables false
namespace Go.Proofs.Ytjkkhbeidhpghaa.L
open Go Go.Abs
end Go.Proofs.Ytjkkhbeidhpghaa.L
