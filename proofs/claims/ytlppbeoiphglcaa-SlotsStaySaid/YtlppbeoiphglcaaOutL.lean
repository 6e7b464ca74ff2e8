/- Members without one. -/
import Derived.Test.YtlppbeoiphglcaaShE
set_option autoImplicit false
set_option maxRecDepth 100000
set_option linter.unusedVariables false
set_option linter.unusedSimpArgs false
namespace Go.Proofs.Ytlppbeoiphglcaa.L
open Go Go.Abs

theorem chk_nd (P : PL) : chkP P = 0 ↔ P.length ≤ 32 ∧ (∀ p ∈ P, mOk p = true) ∧ (fstD P).Nodup := by
  constructor
  · intro h
    refine ⟨chk_len h, fun p hp => ?_, ?_⟩
    · obtain ⟨i, hi, rfl⟩ := List.mem_iff_getElem.1 hp
      have := ((chk_iff P).1 h).2 i hi
      rw [badAt_some hi, Bool.or_eq_false_iff] at this
      simpa using this.1
    · unfold List.Nodup
      rw [List.pairwise_iff_getElem]
      intro i j hi hj hlt he
      simp only [fstD, List.getElem_map] at he
      have := dip_inj h (by simpa [fstD] using hi) (by simpa [fstD] using hj) he
      omega
  · rintro ⟨h1, h2, h3⟩
    refine chk_of h1 (fun i hi => h2 _ (List.getElem_mem hi)) (fun i k hi hk h => ?_)
    unfold List.Nodup at h3
    rw [List.pairwise_iff_getElem] at h3
    rcases Nat.lt_trichotomy i k with e | e | e
    · exact absurd (by simpa [fstD] using h) (h3 i k (by simpa [fstD] using hi) (by simpa [fstD] using hk) e)
    · exact e
    · exact absurd (by simpa [fstD] using h.symm) (h3 k i (by simpa [fstD] using hk) (by simpa [fstD] using hi) e)
def outP (P : PL) (r : Nat) : PL := P.take r ++ P.drop (r + 1)
theorem outP_perm {P : PL} {r : Nat} (hr : r < P.length) : (outP P r ++ [P[r]]).Perm P := by
  have e : P = P.take r ++ P[r] :: P.drop (r + 1) := by rw [← List.drop_eq_getElem_cons hr, List.take_append_drop]
  unfold outP
  conv => rhs; rw [e]
  rw [List.append_assoc]
  exact List.Perm.append_left _ (List.perm_append_comm)
theorem outP_len {P : PL} {r : Nat} (hr : r < P.length) : (outP P r).length = P.length - 1 := by unfold outP; simp; omega
theorem chk_perm {P Q : PL} (h : Q.Perm P) (hc : chkP P = 0) : chkP Q = 0 := by
  rw [chk_nd] at hc ⊢
  exact ⟨by rw [h.length_eq]; exact hc.1, fun p hp => hc.2.1 p (h.mem_iff.1 hp), (h.map Prod.fst).nodup_iff.2 hc.2.2⟩
theorem chk_sub {P Q : PL} (h : Q.Sublist P) (hc : chkP P = 0) : chkP Q = 0 := by
  rw [chk_nd] at hc ⊢
  exact ⟨Nat.le_trans h.length_le hc.1, fun p hp => hc.2.1 p (h.subset hp), hc.2.2.sublist (h.map _)⟩


end Go.Proofs.Ytlppbeoiphglcaa.L
