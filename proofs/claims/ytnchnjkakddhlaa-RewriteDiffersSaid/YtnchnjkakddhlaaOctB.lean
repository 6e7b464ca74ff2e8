/- Texts that stand together: Oct, Clone. -/
import Derived.Test.YtnchnjkakddhlaaProg
import Derived.Test.YtnchnjkakddhlaaBase
section
/- octet's Get. -/
set_option autoImplicit false
set_option maxRecDepth 100000
set_option linter.unusedVariables false
set_option linter.unusedSimpArgs false
namespace Go.Proofs.Ytnchnjkakddhlaa.L
open Go Go.Abs

end Go.Proofs.Ytnchnjkakddhlaa.L

end

section
/- slices.Clone of bytes. -/
set_option autoImplicit false
set_option maxRecDepth 100000
set_option linter.unusedVariables false
set_option linter.unusedSimpArgs false
namespace Go.Proofs.Ytnchnjkakddhlaa.L
open Go Go.Abs

end Go.Proofs.Ytnchnjkakddhlaa.L

end
