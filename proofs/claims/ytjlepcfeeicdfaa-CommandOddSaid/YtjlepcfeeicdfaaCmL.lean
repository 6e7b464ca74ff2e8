/- Orders as arguments. -/
import Derived.Test.YtjlepcfeeicdfaaCmA
import Derived.Test.YtjlepcfeeicdfaaScK
set_option autoImplicit false
set_option maxRecDepth 100000
set_option linter.unusedVariables false
set_option linter.unusedSimpArgs false
namespace Go.Proofs.Ytjlepcfeeicdfaa.L
open Go Go.Abs

theorem strEq {Z : List UInt8} : 0 + Z.length ≤ (bys Z).length ∧ (List.take Z.length (bys Z)).all isByte = true := ⟨by simp, by rw [List.take_of_length_le (by simp)]; exact bysAll Z⟩

end Go.Proofs.Ytjlepcfeeicdfaa.L
