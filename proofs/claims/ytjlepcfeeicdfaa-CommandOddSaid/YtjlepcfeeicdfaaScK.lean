/- The reference's Whole, Dip, SameCommand: contracts. -/
import Derived.Test.YtjlepcfeeicdfaaScN
set_option autoImplicit false
set_option maxRecDepth 100000
set_option linter.unusedVariables false
set_option linter.unusedSimpArgs false
namespace Go.Proofs.Ytjlepcfeeicdfaa.L
open Go Go.Abs

instance decDip : DecidableEq DipC := fun d e => if h : d.v = e.v ∧ d.b = e.b ∧ d.p = e.p then .isTrue (DipC.ext' h.1 h.2.1 h.2.2) else .isFalse fun g => h (by subst g; exact ⟨rfl, rfl, rfl⟩)
def sameC (k pr : Int) (d : DipC) (P : PL) (k1 pr1 : Int) (d1 : DipC) (Q : PL) : Prop := k = k1 ∧ pr = pr1 ∧ d = d1 ∧ P = Q
instance (k pr : Int) (d : DipC) (P : PL) (k1 pr1 : Int) (d1 : DipC) (Q : PL) : Decidable (sameC k pr d P k1 pr1 d1 Q) := by unfold sameC; infer_instance
end Go.Proofs.Ytjlepcfeeicdfaa.L
