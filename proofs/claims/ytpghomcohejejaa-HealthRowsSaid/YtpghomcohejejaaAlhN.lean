/- bazaarlaw23's all: its rows. -/
import Derived.Test.YtpghomcohejejaaTelL
set_option autoImplicit false
set_option maxRecDepth 100000
set_option linter.unusedVariables false
namespace Go.Proofs.Ytpghomcohejejaa.L
open Go Go.Abs

end Go.Proofs.Ytpghomcohejejaa.L
