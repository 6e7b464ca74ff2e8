/- Whether a frame is good. -/
import Derived.Test.YtnchnjkakddhlaaSayRd
import Derived.Test.YtnchnjkakddhlaaGood
set_option autoImplicit false
set_option linter.unusedVariables false
namespace Go.Proofs.Ytnchnjkakddhlaa.L
open Go Go.Abs
abbrev w6 (n : Int) : Int := IntKind.i64.wrap n
theorem vRead_Y {l : List UInt8} (h : readR l = 0) : vRead l = .tup [.agg (viewOf (isV6 l) (netR l).1 ((netR l).1 + rdS l) ((netR l).1 + rdE l) (rdP l) (rdSrc l) (rdDst l) (word (rdG l) 0) (word (rdG l) 2) (segF (rdP l) (rdG l))), .int .i64 0] := by
  unfold vRead viewL; rw [h, if_pos rfl]
theorem readR_0 {l : List UInt8} (h : readR l = 0) : (netR l).2.2 = 0 ∧ l.length ≤ 65535 ∧ rdI l = 0 ∧ segR (rdP l) (rdG l) = 0 := by
  unfold readR at h
  by_cases h1 : (netR l).2.2 = 0
  · rw [if_neg (by simp [h1])] at h
    by_cases h2 : 65535 < l.length
    · rw [if_pos h2] at h; omega
    · rw [if_neg h2] at h
      by_cases h3 : rdI l = 0
      · rw [if_neg (by simp [h3])] at h; exact ⟨h1, by omega, h3, h⟩
      · rw [if_pos h3] at h; exact absurd h h3
  · rw [if_pos h1] at h; exact absurd h h1
theorem ip_facts {l : List UInt8} (h0 : (netR l).2.2 = 0) (hI : rdI l = 0) : (0 ≤ (netR l).1 ∧ (netR l).1 ≤ 18 ∧ 14 ≤ (netR l).1) ∧ (20 ≤ rdS l ∧ rdS l ≤ rdE l) ∧ (netR l).1 + rdE l ≤ l.length ∧
    (l.drop (0 + ((netR l).1 + rdS l).toNat * 1)).take (((netR l).1 + rdE l).toNat - ((netR l).1 + rdS l).toNat) = rdG l ∧ (rdP l = 6 ∨ rdP l = 17) := by
  obtain ⟨A, hA, hA2, hAl, hkd⟩ := net_at h0
  have hq : (ipQ l).length = l.length - A := by unfold ipQ; rw [hA]; simp
  have key : 20 ≤ rdS l ∧ rdS l ≤ rdE l ∧ rdE l ≤ (ipQ l).length ∧ (rdP l = 6 ∨ rdP l = 17) := by
    unfold rdI at hI
    unfold rdS rdE rdP
    split
    · rename_i hv
      rw [if_pos hv] at hI
      obtain ⟨b0, b3, b5⟩ := r6_bounds hI
      have := word_range (ipQ l) 4
      exact ⟨by omega, by omega, b3, b5⟩
    · rename_i hv
      rw [if_neg hv] at hI
      obtain ⟨b0, b1, b2, b3, b5, _⟩ := r4_bounds hI
      exact ⟨b1, b2, b3, b5⟩
  obtain ⟨k1, k2, k3, k4⟩ := key
  have hG := rdG_eq (l := l) hA rfl rfl (show 0 ≤ rdS l by omega) k2
  rw [← hA] at hG
  exact ⟨by omega, ⟨k1, k2⟩, by omega, hG, k4⟩
theorem good_facts {l : List UInt8} (h : readR l = 0) : 0 ≤ (netR l).1 ∧ (20 ≤ rdS l ∧ rdS l ≤ rdE l) ∧ ((netR l).1 + rdE l ≤ l.length ∧ l.length ≤ 65535) ∧
    (l.drop (0 + ((netR l).1 + rdS l).toNat * 1)).take (((netR l).1 + rdE l).toNat - ((netR l).1 + rdS l).toNat) = rdG l ∧ (0 ≤ rdP l ∧ rdP l < 256) := by
  obtain ⟨h0, hl, hI, _⟩ := readR_0 h
  obtain ⟨k1, k2, k3, k4, k5⟩ := ip_facts h0 hI
  exact ⟨by omega, k2, ⟨k3, hl⟩, k4, by omega⟩
theorem adr4_wf (l : List UInt8) (k : Nat) : adrWf (adr4 l k) = true := by
  have e : adr4 l k = .bool false :: bys [l.getD k 0, l.getD (k+1) 0, l.getD (k+2) 0, l.getD (k+3) 0, 0, 0, 0, 0, 0, 0, 0, 0, 0, 0, 0, 0] := rfl
  rw [e]; exact adrB_wf rfl
theorem adr16_wf (l : List UInt8) (k : Nat) : adrWf (adr16 l k) = true := by
  have e : adr16 l k = .bool true :: bys ((List.range 16).map fun i => l.getD (k+i) 0) := rfl
  rw [e]; exact adrB_wf rfl
end Go.Proofs.Ytnchnjkakddhlaa.L
