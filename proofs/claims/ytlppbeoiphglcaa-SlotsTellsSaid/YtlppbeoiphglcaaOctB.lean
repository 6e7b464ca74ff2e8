/- Texts that stand together: Oct, Clone. -/
import Derived.Test.YtlppbeoiphglcaaProg
import Derived.Test.YtlppbeoiphglcaaBase
section
/- octet's Get. -/
set_option autoImplicit false
set_option maxRecDepth 100000
set_option linter.unusedVariables false
set_option linter.unusedSimpArgs false
namespace Go.Proofs.Ytlppbeoiphglcaa.L
open Go Go.Abs

end Go.Proofs.Ytlppbeoiphglcaa.L

end

section
/- slices.Clone of bytes. -/
set_option autoImplicit false
set_option maxRecDepth 100000
set_option linter.unusedVariables false
set_option linter.unusedSimpArgs false
namespace Go.Proofs.Ytlppbeoiphglcaa.L
open Go Go.Abs

end Go.Proofs.Ytlppbeoiphglcaa.L

end
