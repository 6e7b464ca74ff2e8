/- SlotsShares: for every input the law hands back true; each argument reads behind the call as before. Conditions: none. -/
import Derived.Test.YtlppbeoiphglcaaRows
import Derived.Test.YtlppbeoiphglcaaSlotsShares0
import Derived.Test.YtlppbeoiphglcaaBase
import Derived.WalkKit
import Derived.ProofKit
import Derived.OpenShut
namespace Go.Proofs.Ytlppbeoiphglcaa.slotsShares
open Go.ChangeShapes Go.WideShapes Go.ChangeAt Go.RowKit Go.Abs Go.Proofs.Ytlppbeoiphglcaa.L
set_option linter.unusedVariables false

theorem own : ownKnob Try.prog.godebug = none := by kernel_rfl
theorem laid : laidOutB Try.prog = true := by kernel_rfl

end Go.Proofs.Ytlppbeoiphglcaa.slotsShares
