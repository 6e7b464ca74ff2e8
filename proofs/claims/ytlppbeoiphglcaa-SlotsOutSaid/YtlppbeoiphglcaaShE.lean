/- Shares of members of one weight. -/
import Derived.Test.YtlppbeoiphglcaaSvT
set_option autoImplicit false
set_option maxRecDepth 100000
set_option linter.unusedVariables false
set_option linter.unusedSimpArgs false
namespace Go.Proofs.Ytlppbeoiphglcaa.L
open Go Go.Abs

theorem sumL_mono : ∀ (a b : List Int), a.length = b.length → (∀ i, i < a.length → a.getD i 0 ≤ b.getD i 0) → sumL a ≤ sumL b
  | [], [], _, _ => by simp
  | x :: a, y :: b, h, H => by
    have ih := sumL_mono a b (by simpa using h) fun i hi => by simpa using H (i + 1) (by simpa using hi)
    have h0 := H 0 (by simp)
    simp only [List.getD_cons_zero] at h0
    simp; omega
  | [], _ :: _, h, _ => by simp at h
  | _ :: _, [], h, _ => by simp at h
def stepL (q : Int) (m k : Nat) : List Int := (List.range k).map fun j : Nat => q + if j < m then 1 else 0
theorem stepL_sum (q : Int) (m : Nat) : ∀ k, sumL (stepL q m k) = k * q + min m k
  | 0 => by simp [stepL]
  | k + 1 => by
    have e : stepL q m (k + 1) = stepL q m k ++ [q + if k < m then 1 else 0] := by simp [stepL, List.range_succ]
    rw [e, sumL_append, stepL_sum q m k]
    have : ((k + 1 : Nat) : Int) * q = k * q + q := by rw [show ((k + 1 : Nat) : Int) = k + 1 by omega, Int.add_mul]; omega
    rw [this]
    simp only [sumL_cons, sumL_nil]
    split <;> omega
theorem stepL_get (q : Int) {m k i : Nat} (hi : i < k) : (stepL q m k).getD i 0 = q + if i < m then 1 else 0 := by
  rw [getD_at (by simpa [stepL] using hi)]; simp [stepL]
theorem sumW_same {P : PL} {c : Int} (h : ∀ i (hi : i < P.length), P[i].2 = c) : sumW P = P.length * c := by
  have e : P.map Prod.snd = List.replicate P.length c := by
    refine List.ext_getElem (by simp) fun i h1 h2 => ?_
    simp; exact h i (by simpa using h1)
  unfold sumW
  rw [e]
  generalize P.length = k
  induction k with
  | zero => simp
  | succ k ih => rw [List.replicate_succ, sumL_cons, ih, show ((k + 1 : Nat) : Int) = k + 1 by omega, Int.add_mul]; omega
theorem sh_same {P : PL} {n c : Int} (hc : chkP P = 0) (hp : 0 < P.length) (h0 : 0 ≤ n) (hn : n ≤ 64) (h : ∀ i (hi : i < P.length), P[i].2 = c) {i : Nat} (hi : i < P.length) : (shP P n).getD i 0 = n / P.length + if (i : Int) < n % P.length then 1 else 0 := by
  obtain ⟨b, s, e, B⟩ := sh_pk hc hp h0 hn
  have hc1 : 1 ≤ c := by have := chk_w hc hi; rw [h i hi] at this; omega
  have hw := sumW_same h
  have hq : ∀ j, j < P.length → (qL P n).getD j 0 = n / P.length := by
    intro j hj
    rw [getD_at (by simpa using hj)]
    simp only [qL, List.getElem_map]
    rw [h j hj, hw]
    exact Int.mul_ediv_mul_of_pos_left _ _ (by omega)
  have hr : ∀ j, j < P.length → (rL P n).getD j 0 = n * c % sumW P := by
    intro j hj
    rw [getD_at (by simpa using hj)]
    simp only [rL, List.getElem_map]
    rw [h j hj]
  have hs := shP_sum h0 hn hc hp
  rw [← e] at hs ⊢
  have hl : s.1.length = P.length := by
    rw [e]; exact shP_len h0 hn hc (by rintro rfl; simp at hp)
  have hmod := Int.emod_add_mul_ediv n P.length
  have hsl : ∀ m, (stepL (n / P.length) m P.length).length = P.length := by intro m; simp [stepL]
  rw [B.q i hi, hq i hi]
  congr 1
  by_cases hb : b i = true
  · rw [if_pos hb, if_pos]
    have := sumL_mono (stepL (n / P.length) (i + 1) P.length) s.1 (by rw [hsl, hl]) (by
      intro j hj
      rw [hsl] at hj
      rw [stepL_get _ hj, B.q j hj, hq j hj]
      by_cases hji : j < i + 1
      · have : b j = true := by
          by_cases e : j = i
          · rw [e]; exact hb
          · exact B.fst i j hi (by omega) hb (by rw [hr i hi, hr j hj])
        rw [if_pos hji, if_pos this]; omega
      · rw [if_neg hji]; split <;> omega)
    rw [stepL_sum, hs] at this
    omega
  · rw [if_neg hb, if_neg]
    have := sumL_mono s.1 (stepL (n / P.length) i P.length) (by rw [hsl, hl]) (by
      intro j hj
      rw [hl] at hj
      rw [stepL_get _ hj, B.q j hj, hq j hj]
      by_cases hji : j < i
      · rw [if_pos hji]; split <;> omega
      · rw [if_neg hji, if_neg]; omega
        intro hbj
        by_cases e : j = i
        · rw [e] at hbj; exact hb hbj
        · exact hb (B.fst j i hj (by omega) hbj (by rw [hr i hi, hr j hj])))
    rw [stepL_sum, hs] at this
    omega
end Go.Proofs.Ytlppbeoiphglcaa.L
