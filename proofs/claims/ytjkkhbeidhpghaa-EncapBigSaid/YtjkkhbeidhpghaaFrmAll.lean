/- Frames that are built: all that is told of them. -/
import Derived.Test.YtjkkhbeidhpghaaGoodF
import Derived.Test.YtjkkhbeidhpghaaSgbKit
set_option autoImplicit false
set_option linter.unusedVariables false
namespace Go.Proofs.Ytjkkhbeidhpghaa.L
open Go Go.Abs
end Go.Proofs.Ytjkkhbeidhpghaa.L
