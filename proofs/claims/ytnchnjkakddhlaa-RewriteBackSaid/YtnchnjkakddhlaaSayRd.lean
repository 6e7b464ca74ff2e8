/- Read's answer, told. -/
import Derived.Test.YtnchnjkakddhlaaOctB
set_option autoImplicit false
namespace Go.Proofs.Ytnchnjkakddhlaa.L
open Go Go.Abs
theorem zc8 {h : zaa} {a v : AV} {l : List UInt8} (g : bOk h a = true ∧ bOf h a = l) (hn : nOf a ≤ 1000000000000) (hr : zci l = v) : Says zk7 [a] h v [] := ⟨by
 show some (bOk h a && decide (nOf a ≤ 1000000000000), zci (bOf h a), h) = _
 rw [g.1, g.2, hr, decide_eq_true hn, List.append_nil]; rfl⟩
end Go.Proofs.Ytnchnjkakddhlaa.L
