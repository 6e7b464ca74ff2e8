/- DIPs by their numbers. -/
import Derived.Test.YtlppbeoiphglcaaAddrB
import Derived.Test.YtlppbeoiphglcaaImK
set_option autoImplicit false
set_option maxRecDepth 100000
set_option linter.unusedVariables false
set_option linter.unusedSimpArgs false
namespace Go.Proofs.Ytlppbeoiphglcaa.L
open Go Go.Abs

def dipN (v : Bool) (n : Int) : DipC := ⟨v, [172, 16, 0, db3 n, 0, 0, 0, 0, 0, 0, 0, 0, 0, 0, 0, 0], dport n, rfl⟩
end Go.Proofs.Ytlppbeoiphglcaa.L
