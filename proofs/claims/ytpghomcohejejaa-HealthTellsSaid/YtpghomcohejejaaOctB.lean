/- Texts that stand together: Oct, Clone. -/
import Derived.Test.YtpghomcohejejaaProg
import Derived.Test.YtpghomcohejejaaBase
section
/- octet's Get. -/
set_option autoImplicit false
set_option maxRecDepth 100000
set_option linter.unusedVariables false
set_option linter.unusedSimpArgs false
namespace Go.Proofs.Ytpghomcohejejaa.L
open Go Go.Abs

end Go.Proofs.Ytpghomcohejejaa.L

end

section
/- slices.Clone of bytes. -/
set_option autoImplicit false
set_option maxRecDepth 100000
set_option linter.unusedVariables false
set_option linter.unusedSimpArgs false
namespace Go.Proofs.Ytpghomcohejejaa.L
open Go Go.Abs

end Go.Proofs.Ytpghomcohejejaa.L

end
