/- Frames that are cut off. -/
import Derived.Test.YtnchnjkakddhlaaGoodF
set_option autoImplicit false
set_option linter.unusedVariables false
namespace Go.Proofs.Ytnchnjkakddhlaa.L
open Go Go.Abs
theorem wd_take {l : List UInt8} {n i : Nat} (h : i + 1 < n) : word (l.take n) i = word l i := by
  unfold word; rw [byt_take (by omega), byt_take h]
end Go.Proofs.Ytnchnjkakddhlaa.L
