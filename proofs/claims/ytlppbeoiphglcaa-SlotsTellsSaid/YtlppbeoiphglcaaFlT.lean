/- Fill: who has what. -/
import Derived.Test.YtlppbeoiphglcaaShT
import Derived.Test.YtlppbeoiphglcaaCmK
set_option autoImplicit false
set_option maxRecDepth 100000
set_option linter.unusedVariables false
set_option linter.unusedSimpArgs false
namespace Go.Proofs.Ytlppbeoiphglcaa.L
open Go Go.Abs

theorem atP_get {P : PL} {d : DipC} (h : atP P d < P.length) : P[atP P d].1 = d := of_decide_eq_true (List.findIdx_getElem (p := fun p : DipC × Int => decide (p.1 = d)) (xs := P) (w := h))

noncomputable def cntOn (X : List DipC) (R : Nat → Bool) (n : Nat) (d : DipC) : Nat := (List.range n).countP fun x => R x && decide (X[x]? = some d)

structure J1 (P : PL) (D : List DipC) (S : List Int) (n i : Nat) (s : F1) : Prop where
  nd : s.2.2.Nodup
  keep : ∀ x, x < i → x ∉ s.2.2 → s.2.1[x]? = D[x]?
  op : ∀ x ∈ s.2.2, ∀ k (hk : k < P.length), D[x]? = some P[k].1 → S.getD k 0 ≤ cntD (D.take x) P[k].1
  lf : ∀ k (hk : k < P.length), s.1.getD k 0 = max (S.getD k 0 - cntD (D.take i) P[k].1) 0
  mem : ∀ x, x < i → x ∉ s.2.2 → ∃ k, ∃ hk : k < P.length, s.2.1[x]? = some P[k].1
  cnt : ∀ k (hk : k < P.length), (cntOn s.2.1 (fun x => decide (x < i) && !decide (x ∈ s.2.2)) n P[k].1 : Int) + s.1.getD k 0 = S.getD k 0
end Go.Proofs.Ytlppbeoiphglcaa.L
