/- command.Decode: its contract. -/
import Derived.Test.YtjlepcfeeicdfaaDcN
import Derived.Test.YtjlepcfeeicdfaaCmG
set_option autoImplicit false
set_option maxRecDepth 100000
set_option linter.unusedVariables false
set_option linter.unusedSimpArgs false
namespace Go.Proofs.Ytjlepcfeeicdfaa.L
open Go Go.Abs

theorem ars_app {ρ : Nat → Option Nat} : ∀ {l m m' : List AV}, AV.frees l = true → ARs ρ m m' → ARs ρ (l ++ m) (l ++ m')
  | [], _, _, _, h => h
  | a :: l, m, m', hf, h => by
    simp only [AV.frees, Bool.and_eq_true] at hf
    exact .cons _ _ _ _ (.free _ hf.1) (ars_app hf.2 h)
theorem nrs_app {k : Nat} {m m' : List AV} (h : NRs k m m') : ∀ l : List AV, NRs k (l ++ m) (l ++ m')
  | [] => h
  | a :: l => .same _ _ _ (nrs_app h l)
def cmH (k pr : Int) (d : DipC) : List AV := .int .i64 k :: .int .u8 pr :: d.cells
theorem cmH_free (k pr : Int) (d : DipC) : AV.frees (cmH k pr d) = true := d.cells_frees
end Go.Proofs.Ytjlepcfeeicdfaa.L
