/- Fill: who has what, in the end. -/
import Derived.Test.YtlppbeoiphglcaaFlT
set_option autoImplicit false
set_option maxRecDepth 100000
set_option linter.unusedVariables false
set_option linter.unusedSimpArgs false
namespace Go.Proofs.Ytlppbeoiphglcaa.L
open Go Go.Abs

structure J2 (P : PL) (D : List DipC) (S : List Int) (n : Nat) (Q : List Nat) (L1 : List Int) (j : Nat) (s : F2) : Prop where
  keep : ∀ x, x < n → x ∉ Q → s.2.1[x]? = D[x]?
  new : D.length = n → ∀ x, x ∈ Q.take j → s.2.1[x]? ≠ D[x]?
  lf : ∀ k, k < P.length → s.1.getD k 0 ≤ L1.getD k 0
  mem : ∀ x, x < n → x ∉ Q.drop j → ∃ k, ∃ hk : k < P.length, s.2.1[x]? = some P[k].1
  cnt : ∀ k (hk : k < P.length), (cntOn s.2.1 (fun x => !decide (x ∈ Q.drop j)) n P[k].1 : Int) + s.1.getD k 0 = S.getD k 0
variable {P : PL} {D : List DipC} {S : List Int} {n : Nat}
end Go.Proofs.Ytlppbeoiphglcaa.L
