/- Shares: each has its part. -/
import Derived.Test.YtlppbeoiphglcaaFlP
set_option autoImplicit false
set_option maxRecDepth 100000
set_option linter.unusedVariables false
set_option linter.unusedSimpArgs false
namespace Go.Proofs.Ytlppbeoiphglcaa.L
open Go Go.Abs

theorem sumL_lin (c : Int) : ∀ (r a q : List Int), r.length = a.length → a.length = q.length → (∀ i, i < r.length → r.getD i 0 ≤ c * (a.getD i 0 - q.getD i 0)) → sumL r ≤ c * (sumL a - sumL q)
  | [], [], [], _, _, _ => by simp
  | x :: r, y :: a, z :: q, h1, h2, H => by
    have ih := sumL_lin c r a q (by simpa using h1) (by simpa using h2) fun i hi => by simpa using H (i + 1) (by simpa using hi)
    have h0 := H 0 (by simp)
    simp only [List.getD_cons_zero] at h0
    have e : c * (sumL (y :: a) - sumL (z :: q)) = c * (y - z) + c * (sumL a - sumL q) := by
      rw [← Int.mul_add]; congr 1; simp; omega
    rw [e]; simp; omega
  | [], _ :: _, _, h, _, _ => by simp at h
  | _ :: _, [], _, h, _, _ => by simp at h
  | [], [], _ :: _, _, h, _ => by simp at h
  | _ :: _, _ :: _, [], _, h, _ => by simp at h
theorem getD_at {l : List Int} {i : Nat} (h : i < l.length) : l.getD i 0 = l[i] := by rw [List.getD_eq_getElem?_getD, List.getElem?_eq_getElem h, Option.getD_some]
theorem getD_set (l : List Int) (i j : Nat) (x : Int) (h : i < l.length) : (l.set i x).getD j 0 = if i = j then x else l.getD j 0 := by
  rw [List.getD_eq_getElem?_getD, List.getD_eq_getElem?_getD, List.getElem?_set]
  by_cases e : i = j
  · subst e; simp [h]
  · simp [e]

structure Pk (P : PL) (n : Int) (s : List Int × List Int) (b : Nat → Bool) : Prop where
  q : ∀ i, i < P.length → s.1.getD i 0 = (qL P n).getD i 0 + if b i = true then 1 else 0
  r : ∀ i, i < P.length → s.2.getD i 0 = if b i = true then -1 else (rL P n).getD i 0
  pos : ∀ i, i < P.length → b i = true → 0 < (rL P n).getD i 0
  up : ∀ i k, i < P.length → k < P.length → b i = true → (rL P n).getD i 0 < (rL P n).getD k 0 → b k = true
  fst : ∀ i k, i < P.length → k < i → b i = true → (rL P n).getD k 0 = (rL P n).getD i 0 → b k = true
theorem rL_bd {P : PL} {n : Int} (hc : chkP P = 0) (hp : 0 < P.length) {i : Nat} (hi : i < P.length) : 0 ≤ (rL P n).getD i 0 ∧ (rL P n).getD i 0 ≤ sumW P - 1 := by
  have hs := sumW_pos hc hp
  rw [getD_at (by simpa using hi)]
  simp only [rL, List.getElem_map]
  have := Int.emod_nonneg (n * P[i].2) (show sumW P ≠ 0 by omega)
  have := Int.emod_lt_of_pos (n * P[i].2) hs.1
  omega
theorem siter_pk {P : PL} {n : Int} (hc : chkP P = 0) (hp : 0 < P.length) : ∀ j : Nat, (j : Int) ≤ leftS P n → ∃ b, Pk P n (siter j (qL P n, rL P n)) b
  | 0, _ => ⟨fun _ => false, by intro i hi; simp [siter], by intro i hi; simp [siter], by simp, by simp, by simp⟩
  | j + 1, hj => by
    obtain ⟨b, B⟩ := siter_pk (n := n) hc hp j (by omega)
    obtain ⟨l1, l2⟩ := siter_len (qL P n, rL P n) j
    have hsum := siter_sum (qL P n, rL P n) (by simpa using hp) (by simp) j
    show ∃ b, Pk P n (sstep (siter j (qL P n, rL P n))) b
    generalize siter j (qL P n, rL P n) = s at *
    simp only [qL_len, rL_len] at l1 l2 hsum
    obtain ⟨hb, _⟩ := bestI_lt (l := s.2) (by omega)
    have hg := bestI_get (l := s.2) (by omega)
    have hs := sumW_pos hc hp
    obtain ⟨hl0, hl⟩ := leftS_bd (n := n) hc hp
    have hmax : 0 < maxI s.2 := by
      refine Classical.byContradiction fun hno => ?_
      have key := sumL_lin (sumW P - 1) (rL P n) s.1 (qL P n) (by simp; omega) (by simp; omega) (by
        intro i hi
        have hi' : i < P.length := by simpa using hi
        have e := B.q i hi'
        have f := B.r i hi'
        by_cases hbi : b i = true
        · rw [if_pos hbi] at e
          rw [show s.1.getD i 0 - (qL P n).getD i 0 = 1 by omega]
          have := (rL_bd (n := n) hc hp hi').2
          omega
        · rw [if_neg hbi] at e f
          rw [show s.1.getD i 0 - (qL P n).getD i 0 = 0 by omega]
          rw [← f, getD_at (by omega)]
          have := maxI_ge (List.getElem_mem (show i < s.2.length by omega))
          omega)
      rw [hsum] at key
      have e1 : (sumW P - 1) * (sumL (qL P n) + (j : Int) - sumL (qL P n)) = sumW P * j - j := by
        rw [show sumL (qL P n) + (j : Int) - sumL (qL P n) = j by omega, Int.sub_mul]; omega
      have e2 := Int.mul_le_mul_of_nonneg_right (show (j : Int) + 1 ≤ leftS P n by omega) (show 0 ≤ sumW P by omega)
      rw [Int.add_mul, Int.mul_comm (j : Int)] at e2
      omega
    have hbi : bestI s.2 < P.length := by omega
    have hnb : ¬ b (bestI s.2) = true := by
      intro h
      have := B.r _ hbi
      rw [if_pos h, getD_at hb, hg] at this
      omega
    have hrb : (rL P n).getD (bestI s.2) 0 = maxI s.2 := by
      have := B.r _ hbi
      rw [if_neg hnb, getD_at hb, hg] at this
      exact this.symm
    refine ⟨fun i => b i || decide (bestI s.2 = i), ?_, ?_, ?_, ?_, ?_⟩
    · intro i hi
      simp only [sstep]
      rw [getD_set _ _ _ _ (by omega)]
      by_cases e : bestI s.2 = i
      · subst e
        rw [if_pos rfl, B.q _ hi, if_neg hnb]; simp
      · rw [if_neg e, B.q i hi]; simp [e]
    · intro i hi
      simp only [sstep]
      rw [getD_set _ _ _ _ hb]
      by_cases e : bestI s.2 = i
      · rw [if_pos e]; simp [e]
      · rw [if_neg e, B.r i hi]; simp [e]
    · intro i hi h
      rcases Bool.or_eq_true _ _ ▸ h with h | h
      · exact B.pos i hi h
      · have := of_decide_eq_true h
        subst this; omega
    · intro i k hi hk h hlt
      rcases Bool.or_eq_true _ _ ▸ h with h | h
      · show (b k || _) = true; rw [B.up i k hi hk h hlt]; rfl
      · have := of_decide_eq_true h
        subst this
        by_cases hbk : b k = true
        · simp [hbk]
        · have f := B.r k hk
          rw [if_neg hbk, getD_at (by omega)] at f
          have := maxI_ge (List.getElem_mem (show k < s.2.length by omega))
          omega
    · intro i k hi hk h heq
      rcases Bool.or_eq_true _ _ ▸ h with h | h
      · show (b k || _) = true; rw [B.fst i k hi hk h heq]; rfl
      · have := of_decide_eq_true h
        subst this
        by_cases hbk : b k = true
        · simp [hbk]
        · have f := B.r k (by omega)
          rw [if_neg hbk, getD_at (by omega)] at f
          exact absurd (f.trans (heq.trans hrb)) (bestI_first (by omega) (by omega) hk)

theorem sh_pk {P : PL} {n : Int} (hc : chkP P = 0) (hp : 0 < P.length) (h0 : 0 ≤ n) (hn : n ≤ 64) : ∃ b s, s.1 = shP P n ∧ Pk P n s b := by
  rw [shP_good h0 hn hc hp]
  obtain ⟨b, B⟩ := siter_pk (n := n) hc hp (leftS P n).toNat (by have := (leftS_bd (n := n) hc hp).1; omega)
  exact ⟨b, _, rfl, B⟩
end Go.Proofs.Ytlppbeoiphglcaa.L
