/- Frames that are cut off. -/
import Derived.Test.YthbneddbigclfaaGoodF
set_option autoImplicit false
set_option linter.unusedVariables false
namespace Go.Proofs.Ythbneddbigclfaa.L
open Go Go.Abs
theorem wd_take {l : List UInt8} {n i : Nat} (h : i + 1 < n) : word (l.take n) i = word l i := by
  unfold word; rw [byt_take (by omega), byt_take h]
theorem r4_cut {q : List UInt8} {j : Nat} (h : r4 q = 0) (hj : (j : Int) < word q 2) : r4 (q.take j) = 1 := by
  have hb := r4_bounds h
  unfold r4 at h ⊢
  have hl : (q.take j).length = min j q.length := List.length_take
  by_cases h20 : j < 20
  · rw [if_pos (by omega)]
  rw [if_neg (by omega)] at h
  split at h; · omega
  rename_i h4
  unfold s4 at *
  rw [if_neg (by omega), byt_take (by omega), wd_take (by omega), if_neg h4, if_neg (by omega), if_neg (by omega), if_pos (by omega)]
theorem r6_cut {q : List UInt8} {j : Nat} (h : r6 q = 0) (hj : (j : Int) < 40 + word q 4) : r6 (q.take j) = 1 := by
  have hb := r6_bounds h
  unfold r6 at h ⊢
  have hl : (q.take j).length = min j q.length := List.length_take
  by_cases h20 : j < 40
  · rw [if_pos (by omega)]
  rw [if_neg (by omega)] at h
  split at h; · omega
  rename_i h4
  rw [if_neg (by omega), byt_take (by omega), wd_take (by omega), if_neg h4, if_pos (by omega)]
theorem netR_take {l : List UInt8} {k : Nat} (h : (netR l).2.2 = 0) (hk : k ≤ l.length) : ((k : Int) < (netR l).1 → (netR (l.take k)).2.2 = 1) ∧ ((netR l).1 ≤ k → netR (l.take k) = netR l) := by
  have hl : (l.take k).length = k := by rw [List.length_take]; omega
  unfold netR at h ⊢
  rw [hl]
  by_cases h1 : l.length < 14
  · rw [if_pos h1] at h; simp at h
  rw [if_neg h1] at h ⊢
  by_cases h2 : word l 12 = 33024
  · rw [if_pos h2] at h ⊢
    by_cases h3 : l.length < 18
    · rw [if_pos h3] at h; simp at h
    rw [if_neg h3] at h ⊢
    have h18 : (netW 18 (word l 16)).1 = 18 := by unfold netW at h ⊢; split at h; · simp at h
                                                  rename_i hh; rw [if_neg hh]
    rw [h18]
    refine ⟨fun hlt => ?_, fun hle => ?_⟩
    · by_cases h4 : k < 14
      · rw [if_pos h4]
      · rw [if_neg h4, wd_take (by omega), if_pos h2, if_pos (by omega)]
    · rw [if_neg (by omega), wd_take (by omega), if_pos h2, if_neg (by omega), wd_take (by omega)]
  · rw [if_neg h2] at h ⊢
    have h14 : (netW 14 (word l 12)).1 = 14 := by unfold netW at h ⊢; split at h; · simp at h
                                                  rename_i hh; rw [if_neg hh]
    rw [h14]
    refine ⟨fun hlt => ?_, fun hle => ?_⟩
    · rw [if_pos (by omega)]
    · rw [if_neg (by omega), wd_take (by omega), if_neg h2]
end Go.Proofs.Ythbneddbigclfaa.L
