/- zkp that are cut off. -/
import Derived.Test.YtnchnjkakddhlaaGoodF
set_option autoImplicit false
set_option linter.unusedVariables false
namespace Go.Proofs.Ytnchnjkakddhlaa.L
open Go Go.Abs
theorem zlX {l : List UInt8} {n i : Nat} (h : i + 1 < n) : zan (l.take n) i = zan l i := by
 unfold zan; rw [zf6 (by omega), zf6 h]
end Go.Proofs.Ytnchnjkakddhlaa.L
