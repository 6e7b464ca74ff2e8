/- Frames that are cut off. -/
import Derived.Test.YtjkkhbeidhpghaaGoodF
set_option autoImplicit false
set_option linter.unusedVariables false
namespace Go.Proofs.Ytjkkhbeidhpghaa.L
open Go Go.Abs
end Go.Proofs.Ytjkkhbeidhpghaa.L
