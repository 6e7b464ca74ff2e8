/- The open places, in order. -/
import Derived.Test.YtlppbeoiphglcaaRfN
import Derived.Test.YtlppbeoiphglcaaFlU
set_option autoImplicit false
set_option maxRecDepth 100000
set_option linter.unusedVariables false
set_option linter.unusedSimpArgs false
namespace Go.Proofs.Ytlppbeoiphglcaa.L
open Go Go.Abs

variable {P : PL} {D : List DipC} {S : List Int} {n : Nat}
theorem fl1_Q (i : Nat) : (fl1 P D S n (i + 1)).2.2 = (fl1 P D S n i).2.2 ∨ (fl1 P D S n (i + 1)).2.2 = (fl1 P D S n i).2.2 ++ [i] := by
  rw [show fl1 P D S n (i + 1) = step1 P D i (fl1 P D S n i) from rfl]
  unfold step1
  split
  · exact .inl rfl
  · exact .inr rfl
theorem fl1_pre {i k : Nat} (h : i ≤ k) : (fl1 P D S n i).2.2 <+: (fl1 P D S n k).2.2 := by
  induction k with
  | zero => have : i = 0 := by omega
            subst this; exact List.prefix_refl _
  | succ k ih =>
    by_cases e : i = k + 1
    · subst e; exact List.prefix_refl _
    · refine (ih (by omega)).trans ?_
      rcases fl1_Q (P := P) (D := D) (S := S) (n := n) k with h | h
      · rw [h]; exact List.prefix_refl _
      · rw [h]; exact List.prefix_append _ _
theorem fl1_lt : ∀ i, ∀ x ∈ (fl1 P D S n i).2.2, x < i
  | 0, x, h => by simp [fl1] at h
  | i + 1, x, h => by
    rcases fl1_Q (P := P) (D := D) (S := S) (n := n) i with e | e
    · rw [e] at h; have := fl1_lt i x h; omega
    · rw [e] at h
      rcases List.mem_append.1 h with h | h
      · have := fl1_lt i x h; omega
      · simp at h; omega
theorem fl1_mem {i x k : Nat} (hx : x < i) (h : i ≤ k) : x ∈ (fl1 P D S n k).2.2 ↔ x ∈ (fl1 P D S n i).2.2 := by
  induction k with
  | zero => omega
  | succ k ih =>
    by_cases e : i = k + 1
    · subst e; exact Iff.rfl
    · rw [← ih (by omega)]
      rcases fl1_Q (P := P) (D := D) (S := S) (n := n) k with e | e
      · rw [e]
      · rw [e]; simp; omega
theorem fl1_opened {i : Nat} (hi : i < n) (h : i ∈ (fl1 P D S n n).2.2) : (fl1 P D S n (i + 1)).2.2 = (fl1 P D S n i).2.2 ++ [i] := by
  rw [fl1_mem (i := i + 1) (by omega) (by omega)] at h
  rcases fl1_Q (P := P) (D := D) (S := S) (n := n) i with e | e
  · rw [e] at h; have := fl1_lt i i h; omega
  · exact e
theorem fl1_kept {i : Nat} (hi : i < n) (h : i ∉ (fl1 P D S n n).2.2) : (fl1 P D S n (i + 1)).2.2 = (fl1 P D S n i).2.2 := by
  rw [fl1_mem (i := i + 1) (by omega) (by omega)] at h
  rcases fl1_Q (P := P) (D := D) (S := S) (n := n) i with e | e
  · exact e
  · rw [e] at h; simp at h
theorem fl1_at {i : Nat} (hi : i < n) (h : i ∈ (fl1 P D S n n).2.2) : (fl1 P D S n n).2.2[(fl1 P D S n i).2.2.length]? = some i := by
  obtain ⟨t, ht⟩ := fl1_pre (P := P) (D := D) (S := S) (n := n) (show i + 1 ≤ n by omega)
  rw [← ht, fl1_opened hi h, List.append_assoc, List.getElem?_append_right (Nat.le_refl _)]
  simp

end Go.Proofs.Ytlppbeoiphglcaa.L
