/- Frames that are built: all that is told of them. -/
import Derived.Test.YtnchnjkakddhlaaGoodF
import Derived.Test.YtnchnjkakddhlaaSgbKit
set_option autoImplicit false
set_option linter.unusedVariables false
namespace Go.Proofs.Ytnchnjkakddhlaa.L
open Go Go.Abs
theorem rdSrc_wf (l : List UInt8) : adrWf (rdSrc l) = true := by unfold rdSrc; split; exact adr16_wf _ _; exact adr4_wf _ _
theorem rdDst_wf (l : List UInt8) : adrWf (rdDst l) = true := by unfold rdDst; split; exact adr16_wf _ _; exact adr4_wf _ _
end Go.Proofs.Ytnchnjkakddhlaa.L
