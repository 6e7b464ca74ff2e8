/- Whether a frame is good. -/
import Derived.Test.YtjkkhbeidhpghaaSayRd
import Derived.Test.YtjkkhbeidhpghaaGood
set_option autoImplicit false
set_option linter.unusedVariables false
namespace Go.Proofs.Ytjkkhbeidhpghaa.L
open Go Go.Abs
abbrev w6 (n : Int) : Int := IntKind.i64.wrap n
abbrev iv (n : Int) : Int := intV (some (AV.int .i64 n))
theorem vRead_Y {l : List UInt8} (h : readR l = 0) : vRead l = .tup [.agg (viewOf (isV6 l) (netR l).1 ((netR l).1 + rdS l) ((netR l).1 + rdE l) (rdP l) (rdSrc l) (rdDst l) (word (rdG l) 0) (word (rdG l) 2) (segF (rdP l) (rdG l))), .int .i64 0] := by
  unfold vRead viewL; rw [h, if_pos rfl]
theorem readR_0 {l : List UInt8} (h : readR l = 0) : (netR l).2.2 = 0 ∧ l.length ≤ 65535 ∧ rdI l = 0 ∧ segR (rdP l) (rdG l) = 0 := by
  unfold readR at h
  by_cases h1 : (netR l).2.2 = 0
  · rw [if_neg (by simp [h1])] at h
    by_cases h2 : 65535 < l.length
    · rw [if_pos h2] at h; omega
    · rw [if_neg h2] at h
      by_cases h3 : rdI l = 0
      · rw [if_neg (by simp [h3])] at h; exact ⟨h1, by omega, h3, h⟩
      · rw [if_pos h3] at h; exact absurd h h3
  · rw [if_pos h1] at h; exact absurd h h1
theorem adr4_wf (l : List UInt8) (k : Nat) : adrWf (adr4 l k) = true := by
  have e : adr4 l k = .bool false :: bys [l.getD k 0, l.getD (k+1) 0, l.getD (k+2) 0, l.getD (k+3) 0, 0, 0, 0, 0, 0, 0, 0, 0, 0, 0, 0, 0] := rfl
  rw [e]; exact adrB_wf rfl
theorem adr16_wf (l : List UInt8) (k : Nat) : adrWf (adr16 l k) = true := by
  have e : adr16 l k = .bool true :: bys ((List.range 16).map fun i => l.getD (k+i) 0) := rfl
  rw [e]; exact adrB_wf rfl
end Go.Proofs.Ytjkkhbeidhpghaa.L
