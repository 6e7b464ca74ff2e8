/- slots.Fill: what it tells. -/
import Derived.Test.YtlppbeoiphglcaaFlN
set_option autoImplicit false
set_option maxRecDepth 100000
set_option linter.unusedVariables false
set_option linter.unusedSimpArgs false
namespace Go.Proofs.Ytlppbeoiphglcaa.L
open Go Go.Abs


theorem sumL_set : ∀ (l : List Int) (i : Nat) (x : Int) (hi : i < l.length), sumL (l.set i x) = sumL l - l[i] + x
  | [], i, x, hi => by simp at hi
  | y :: l, 0, x, _ => by simp; omega
  | y :: l, i + 1, x, hi => by
    have := sumL_set l i x (by simpa using hi)
    simp at this ⊢; omega
theorem sumL_nonneg {l : List Int} (h : ∀ x ∈ l, 0 ≤ x) : 0 ≤ sumL l := by
  induction l with
  | nil => simp
  | cons x l ih =>
    have := ih fun y hy => h y (by simp [hy])
    have := h x (by simp)
    simp; omega
theorem siter_sum (s : List Int × List Int) (hp : 0 < s.2.length) (he : s.1.length = s.2.length) : ∀ k : Nat, sumL (siter k s).1 = sumL s.1 + k
  | 0 => by simp [siter]
  | k + 1 => by
    obtain ⟨a, b⟩ := siter_len s k
    have hb : bestI (siter k s).2 < (siter k s).1.length := by
      have := (bestI_lt (l := (siter k s).2) (by omega)).1; omega
    have ih := siter_sum s hp he k
    simp only [siter, sstep]
    rw [sumL_set _ _ _ hb, List.getD_eq_getElem?_getD, List.getElem?_eq_getElem hb, Option.getD_some]
    omega
theorem sumQ (P : PL) (n : Int) (S : Int) (hS : 0 < S) : sumL (P.map fun x => n * x.2 / S) * S + sumL (P.map fun x => n * x.2 % S) = n * sumW P := by
  unfold sumW
  induction P with
  | nil => simp
  | cons x P ih =>
    simp only [List.map_cons, sumL_cons]
    have := Int.emod_add_mul_ediv (n * x.2) S
    rw [Int.add_mul, Int.mul_add, ← ih, Int.mul_comm (n * x.2 / S) S]
    omega
theorem leftS_bd {P : PL} {n : Int} (hc : chkP P = 0) (hp : 0 < P.length) : 0 ≤ leftS P n ∧ leftS P n * sumW P = sumL (rL P n) := by
  have hs := sumW_pos hc hp
  have e := sumQ P n (sumW P) hs.1
  change sumL (qL P n) * sumW P + sumL (rL P n) = n * sumW P at e
  have e2 : leftS P n * sumW P = sumL (rL P n) := by
    unfold leftS; rw [Int.sub_mul]; omega
  have h0 : 0 ≤ sumL (rL P n) := sumL_nonneg fun x hx => by
    obtain ⟨y, hy, rfl⟩ := List.mem_map.1 hx
    exact Int.emod_nonneg _ (by omega)
  refine ⟨?_, e2⟩
  rw [← e2] at h0
  refine Classical.byContradiction fun hlt => ?_
  have := Int.mul_neg_of_neg_of_pos (by omega : leftS P n < 0) hs.1
  omega
theorem shP_good {P : PL} {n : Int} (h0 : 0 ≤ n) (hn : n ≤ 64) (hc : chkP P = 0) (hp : 0 < P.length) : shP P n = (siter (leftS P n).toNat (qL P n, rL P n)).1 := by
  unfold shP; rw [if_neg]
  intro hh
  rcases hh with h | h | h | h
  · omega
  · omega
  · exact h hc
  · subst h; simp at hp
theorem shP_sum {P : PL} {n : Int} (h0 : 0 ≤ n) (hn : n ≤ 64) (hc : chkP P = 0) (hp : 0 < P.length) : sumL (shP P n) = n := by
  rw [shP_good h0 hn hc hp, siter_sum _ (by simpa using hp) (by simp)]
  have := (leftS_bd (n := n) hc hp).1
  have : leftS P n = n - sumL (qL P n) := rfl
  simp only []; omega
theorem shP_nonneg {P : PL} {n : Int} (h0 : 0 ≤ n) (hn : n ≤ 64) (hc : chkP P = 0) (hp : 0 < P.length) : ∀ x ∈ shP P n, 0 ≤ x := by
  rw [shP_good h0 hn hc hp]
  intro x hx
  exact (siter_bd (qL P n, rL P n) 1024 (qL_bd hc h0 hn hp) (by simpa using hp) (by simp) _ x hx).1
theorem mem_le_sum : ∀ {l : List Int} (h : ∀ x ∈ l, 0 ≤ x), ∀ x ∈ l, x ≤ sumL l
  | [], _, x, hx => by simp at hx
  | y :: l, h, x, hx => by
    have h' : ∀ x ∈ l, 0 ≤ x := fun z hz => h z (by simp [hz])
    have := sumL_nonneg h'
    rcases List.mem_cons.1 hx with rfl | hx
    · simp; omega
    · have := mem_le_sum h' x hx
      have := h y (by simp)
      simp; omega


def zD : DipC := ⟨false, [0, 0, 0, 0, 0, 0, 0, 0, 0, 0, 0, 0, 0, 0, 0, 0], 0, rfl⟩
theorem zrep_dips (n : Nat) : zrep n dipZ = dipsC (List.replicate n zD) := by
  induction n with
  | zero => rfl
  | succ n ih => rw [zrep_succ, ih]; rfl
abbrev F1 := List Int × List DipC × List Nat
noncomputable def step1 (P : PL) (D : List DipC) (i : Nat) (s : F1) : F1 :=
  if D ≠ [] ∧ atP P (D.getD i zD) < P.length ∧ s.1.getD (atP P (D.getD i zD)) 0 ≠ 0 then (s.1.set (atP P (D.getD i zD)) (s.1.getD (atP P (D.getD i zD)) 0 - 1), s.2.1.set i (D.getD i zD), s.2.2) else (s.1, s.2.1, s.2.2 ++ [i])
noncomputable def fl1 (P : PL) (D : List DipC) (S : List Int) (n : Nat) : Nat → F1
  | 0 => (S, List.replicate n zD, [])
  | i + 1 => step1 P D i (fl1 P D S n i)
def nzN (l : List Int) (a : Nat) : Nat := a + (l.drop a).findIdx fun x => !decide (x = 0)
theorem nzI_N (l : List Int) (a : Nat) : nzI l a = (nzN l a : Nat) := by unfold nzI nzN; simp
abbrev F2 := List Int × List DipC × Nat
def step2 (P : PL) (s : F2) (x : Nat) : F2 := (s.1.set (nzN s.1 s.2.2) (s.1.getD (nzN s.1 s.2.2) 0 - 1), s.2.1.set x (P.getD (nzN s.1 s.2.2) (zD, 0)).1, nzN s.1 s.2.2)
noncomputable def fl2 (P : PL) (D : List DipC) (S : List Int) (n : Nat) (j : Nat) : F2 :=
  ((fl1 P D S n n).2.2.take j).foldl (step2 P) ((fl1 P D S n n).1, (fl1 P D S n n).2.1, 0)
noncomputable def flX (P : PL) (D : List DipC) (S : List Int) (n : Nat) : List DipC := (fl2 P D S n (fl1 P D S n n).2.2.length).2.1
noncomputable def badF (P : PL) (D : List DipC) (n : Int) : Prop := n < 1 ∨ 64 < n ∨ chkP P ≠ 0 ∨ (D ≠ [] ∧ (D.length : Int) ≠ n)
noncomputable def fillP (P : PL) (D : List DipC) (n : Int) : List DipC := @ite _ (badF P D n ∨ P = []) (Classical.propDecidable _) [] (flX P D (shP P n) n.toNat)
noncomputable def fillE (P : PL) (D : List DipC) (n : Int) : Int := @ite _ (badF P D n) (Classical.propDecidable _) 1 0

structure I1 (P : PL) (D : List DipC) (n : Nat) (i : Nat) (s : F1) : Prop where
  len : s.1.length = P.length
  nn : ∀ x ∈ s.1, 0 ≤ x
  xl : s.2.1.length = n
  ql : ∀ x ∈ s.2.2, x < i
  qi : s.2.2.length ≤ i
  sm : sumL s.1 + i = n + s.2.2.length
theorem fl1_inv {P : PL} {D : List DipC} {S : List Int} {n : Nat} (hl : S.length = P.length) (hn : ∀ x ∈ S, 0 ≤ x) (hs : sumL S = n) : ∀ i, i ≤ n → I1 P D n i (fl1 P D S n i)
  | 0, _ => ⟨hl, hn, by simp [fl1], by simp [fl1], by simp [fl1], by simp [fl1, hs]⟩
  | i + 1, hi => by
    have ih := fl1_inv (D := D) hl hn hs i (by omega)
    unfold fl1
    generalize fl1 P D S n i = s at ih ⊢
    obtain ⟨L, X, Q⟩ := s
    unfold step1
    split
    · rename_i h
      obtain ⟨_, h1, h2⟩ := h
      generalize atP P (D.getD i zD) = k at *
      have hk : k < L.length := by have := ih.len; simp only at this; omega
      have e : L.getD k 0 = L[k] := by rw [List.getD_eq_getElem?_getD, List.getElem?_eq_getElem hk, Option.getD_some]
      simp only [e] at h2 ⊢
      have h0 := ih.nn _ (List.getElem_mem hk)
      refine ⟨by simpa using ih.len, ?_, by simpa using ih.xl, fun x hx => by have := ih.ql x hx; omega, by have := ih.qi; simp only at this ⊢; omega, ?_⟩
      · intro x hx
        rcases List.mem_or_eq_of_mem_set hx with h | h
        · exact ih.nn _ h
        · omega
      · have := ih.sm
        simp only at this ⊢
        rw [sumL_set _ _ _ hk]; omega
    · refine ⟨ih.len, ih.nn, ih.xl, fun x hx => ?_, by have := ih.qi; simp at this ⊢; omega, by have := ih.sm; simp at this ⊢; omega⟩
      rcases List.mem_append.1 hx with h | h
      · have := ih.ql x h; omega
      · simp at h; omega
theorem nz_spec {l : List Int} {a : Nat} (hn : ∀ x ∈ l, 0 ≤ x) (hz : ∀ i (h : i < l.length), i < a → l[i] = 0) (hs : 0 < sumL l) : ∃ h : nzN l a < l.length, a ≤ nzN l a ∧ l[nzN l a] ≠ 0 ∧ ∀ i (hi : i < l.length), i < nzN l a → l[i] = 0 := by
  have hex : ∃ x ∈ l.drop a, (!decide (x = 0)) = true := by
    refine Classical.byContradiction fun hno => ?_
    have hall : ∀ x ∈ l, x = 0 := by
      intro x hx
      obtain ⟨i, hi, rfl⟩ := List.mem_iff_getElem.1 hx
      by_cases hia : i < a
      · exact hz i hi hia
      · refine Classical.byContradiction fun hne => hno ⟨l[i], ?_, by simpa using hne⟩
        rw [List.mem_drop_iff_getElem]
        exact ⟨i - a, by omega, by congr 1; omega⟩
    have h0 : sumL l ≤ 0 * l.length := (sumL_bd (B := 0) fun x hx => by rw [hall x hx]; omega).2
    omega
  have hlt : (l.drop a).findIdx (fun x => !decide (x = 0)) < (l.drop a).length := List.findIdx_lt_length.2 hex
  have hd : (l.drop a).length = l.length - a := by simp
  refine ⟨by unfold nzN; omega, by unfold nzN; omega, ?_, ?_⟩
  · have := List.findIdx_getElem (p := fun x : Int => !decide (x = 0)) (xs := l.drop a) (w := hlt)
    simp only [List.getElem_drop] at this
    unfold nzN
    simpa using this
  · intro i hi hlt2
    by_cases hia : i < a
    · exact hz i hi hia
    · unfold nzN at hlt2
      have := List.not_of_lt_findIdx (p := fun x : Int => !decide (x = 0)) (xs := l.drop a) (i := i - a) (by omega)
      simp only [List.getElem_drop] at this
      have e : a + (i - a) = i := by omega
      simp only [e] at this
      simpa using this
structure I2 (P : PL) (n m j : Nat) (s : F2) : Prop where
  len : s.1.length = P.length
  nn : ∀ x ∈ s.1, 0 ≤ x
  xl : s.2.1.length = n
  az : ∀ i (h : i < s.1.length), i < s.2.2 → s.1[i] = 0
  sm : sumL s.1 + j = m
theorem step2_inv {P : PL} {n m j x : Nat} {s : F2} (ih : I2 P n m j s) (hj : j < m) : I2 P n m (j + 1) (step2 P s x) ∧ nzN s.1 s.2.2 < P.length := by
  have hs : 0 < sumL s.1 := by have := ih.sm; omega
  obtain ⟨h1, h2, h3, h4⟩ := nz_spec ih.nn ih.az hs
  obtain ⟨L, X, a⟩ := s
  simp only at h1 h2 h3 h4
  have e : L.getD (nzN L a) 0 = L[nzN L a] := by rw [List.getD_eq_getElem?_getD, List.getElem?_eq_getElem h1, Option.getD_some]
  have h0 := ih.nn _ (List.getElem_mem h1)
  refine ⟨⟨by simpa [step2] using ih.len, ?_, by simpa [step2] using ih.xl, ?_, ?_⟩, by have := ih.len; simp only at this ⊢; omega⟩
  · intro y hy
    simp only [step2, e] at hy
    rcases List.mem_or_eq_of_mem_set hy with h | h
    · exact ih.nn _ h
    · omega
  · intro i hi hlt
    simp only [step2] at hi hlt ⊢
    rw [List.getElem_set_ne (by omega)]
    exact h4 i (by simpa using hi) hlt
  · have := ih.sm
    simp only [step2, e] at this ⊢
    rw [sumL_set _ _ _ h1]; omega
theorem fl2_succ {P : PL} {D : List DipC} {S : List Int} {n j : Nat} (hj : j < (fl1 P D S n n).2.2.length) : fl2 P D S n (j + 1) = step2 P (fl2 P D S n j) (fl1 P D S n n).2.2[j] := by
  unfold fl2; rw [take_snoc hj, List.foldl_append]; rfl
theorem fl2_inv {P : PL} {D : List DipC} {S : List Int} {n : Nat} (hl : S.length = P.length) (hn : ∀ x ∈ S, 0 ≤ x) (hs : sumL S = n) : ∀ j, j ≤ (fl1 P D S n n).2.2.length → I2 P n (fl1 P D S n n).2.2.length j (fl2 P D S n j)
  | 0, _ => by
    have I := fl1_inv (D := D) hl hn hs n (Nat.le_refl _)
    exact ⟨I.len, I.nn, I.xl, by intro i hi h; exact absurd h (Nat.not_lt_zero _), by have := I.sm; simp only [fl2, List.take_zero, List.foldl_nil]; omega⟩
  | j + 1, hj => by
    rw [fl2_succ (by omega)]
    exact (step2_inv (fl2_inv hl hn hs j (by omega)) (by omega)).1

end Go.Proofs.Ytlppbeoiphglcaa.L
