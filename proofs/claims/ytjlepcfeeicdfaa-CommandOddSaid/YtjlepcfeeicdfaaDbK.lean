/- command.DipBytes, command.Dip: contracts. -/
import Derived.Test.YtjlepcfeeicdfaaDbN
set_option autoImplicit false
set_option maxRecDepth 100000
set_option linter.unusedVariables false
set_option linter.unusedSimpArgs false
namespace Go.Proofs.Ytjlepcfeeicdfaa.L
open Go Go.Abs

def dpOk (l : List UInt8) : Prop := frOk l ∧ frN l = l.length
instance (l : List UInt8) : Decidable (dpOk l) := by unfold dpOk; infer_instance
end Go.Proofs.Ytjlepcfeeicdfaa.L
