/- The reference's Encode: its contract. -/
import Derived.Test.YtjlepcfeeicdfaaErN
set_option autoImplicit false
set_option maxRecDepth 100000
set_option linter.unusedVariables false
set_option linter.unusedSimpArgs false
namespace Go.Proofs.Ytjlepcfeeicdfaa.L
open Go Go.Abs

theorem badM_no {k : Int} {m : DipC × Int} (h : badM k m = false) : adrValid (m.1.cells.take 17) = true ∧ 0 ≤ m.2 ∧ m.2 ≤ 255 ∧ (k = 4 → m.2 = 0) := by
  unfold badM at h
  simp only [Bool.or_eq_false_iff, Bool.not_eq_false', decide_eq_false_iff_not, Bool.and_eq_false_iff] at h
  obtain ⟨h1, h2, h3, h4⟩ := h
  refine ⟨h1, by omega, by omega, fun h => ?_⟩
  rcases h4 with g | g
  · exact absurd h g
  · omega

end Go.Proofs.Ytjlepcfeeicdfaa.L
