/- rewrite.To: what the kernel makes of it. -/
import Derived.Test.YtnchnjkakddhlaaPRead
import Derived.Test.YtnchnjkakddhlaaGoodF
import Derived.Test.YtnchnjkakddhlaaSayFour
import Derived.Test.YtnchnjkakddhlaaSix2
import Derived.Test.YtnchnjkakddhlaaGood
import Derived.Test.YtnchnjkakddhlaaFrmAll
set_option autoImplicit false
set_option maxRecDepth 100000
set_option linter.unusedVariables false
set_option linter.unusedSimpArgs false
namespace Go.Proofs.Ytnchnjkakddhlaa.L
open Go Go.Abs

end Go.Proofs.Ytnchnjkakddhlaa.L
