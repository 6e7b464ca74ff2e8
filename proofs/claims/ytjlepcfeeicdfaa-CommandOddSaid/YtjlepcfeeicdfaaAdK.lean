/- The reference's addr: contract. -/
import Derived.Test.YtjlepcfeeicdfaaAdN
set_option autoImplicit false
set_option maxRecDepth 100000
set_option linter.unusedVariables false
set_option linter.unusedSimpArgs false
namespace Go.Proofs.Ytjlepcfeeicdfaa.L
open Go Go.Abs

def adN (q : List UInt8) : Nat := if byt q 0 = 6 then 17 else if byt q 0 = 4 then 5 else 0
def adOk (q : List UInt8) : Prop := 0 < q.length ∧ adN q ≠ 0 ∧ adN q ≤ q.length
instance (q : List UInt8) : Decidable (adOk q) := by unfold adOk; infer_instance
end Go.Proofs.Ytjlepcfeeicdfaa.L
