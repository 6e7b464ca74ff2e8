/- Fill: who has what. -/
import Derived.Test.YtlppbeoiphglcaaShT
import Derived.Test.YtlppbeoiphglcaaCmK
set_option autoImplicit false
set_option maxRecDepth 100000
set_option linter.unusedVariables false
set_option linter.unusedSimpArgs false
namespace Go.Proofs.Ytlppbeoiphglcaa.L
open Go Go.Abs

theorem dip_inj {P : PL} (hc : chkP P = 0) {i k : Nat} (hi : i < P.length) (hk : k < P.length) (h : P[i].1 = P[k].1) : i = k := by
  have aux : ∀ {i k : Nat} (hi : i < P.length) (hk : k < P.length), i < k → P[i].1 ≠ P[k].1 := by
    intro i k hi hk hlt he
    refine chk_fresh hc hk ?_
    rw [← he]
    unfold fstD
    refine List.mem_map.2 ⟨P[i], ?_, rfl⟩
    rw [List.mem_take_iff_getElem]
    exact ⟨i, by omega, rfl⟩
  rcases Nat.lt_trichotomy i k with h1 | h1 | h1
  · exact absurd h (aux hi hk h1)
  · exact h1
  · exact absurd h.symm (aux hk hi h1)
theorem atP_get {P : PL} {d : DipC} (h : atP P d < P.length) : P[atP P d].1 = d := of_decide_eq_true (List.findIdx_getElem (p := fun p : DipC × Int => decide (p.1 = d)) (xs := P) (w := h))
theorem atP_lt {P : PL} {k : Nat} (hk : k < P.length) : atP P P[k].1 < P.length := List.findIdx_lt_length.2 ⟨P[k], List.getElem_mem hk, by simp⟩
theorem atP_eq {P : PL} (hc : chkP P = 0) {k : Nat} (hk : k < P.length) : atP P P[k].1 = k := dip_inj hc (atP_lt hk) hk (atP_get (atP_lt hk))


theorem countP_upd : ∀ (n : Nat) (f g : Nat → Bool) (x : Nat), x < n → (∀ y, y ≠ x → g y = f y) → f x = false → (List.range n).countP g = (List.range n).countP f + if g x = true then 1 else 0
  | 0, _, _, _, h, _, _ => by omega
  | n + 1, f, g, x, h, H, hx => by
    rw [List.range_succ, List.countP_append, List.countP_append]
    by_cases e : x = n
    · subst e
      have : (List.range x).countP g = (List.range x).countP f := List.countP_congr fun y hy => by rw [H y (by have := List.mem_range.1 hy; omega)]
      rw [this]; simp [List.countP_cons, hx]
    · have ih := countP_upd n f g x (by omega) H hx
      rw [ih]
      simp [List.countP_cons, H n (by omega)]; omega
noncomputable def cntOn (X : List DipC) (R : Nat → Bool) (n : Nat) (d : DipC) : Nat := (List.range n).countP fun x => R x && decide (X[x]? = some d)
theorem cntOn_set {X : List DipC} {R R' : Nat → Bool} {n x : Nat} {d' d : DipC} (hx : x < n) (hl : X.length = n) (h0 : R x = false) (hR : ∀ y, y ≠ x → R' y = R y) (h1 : R' x = true) : cntOn (X.set x d') R' n d = cntOn X R n d + if d' = d then 1 else 0 := by
  unfold cntOn
  rw [countP_upd n (fun y => R y && decide (X[y]? = some d)) _ x hx (by intro y hy; show (R' y && _) = (R y && _); rw [hR y hy, List.getElem?_set_ne (fun h => hy h.symm)]) (by simp [h0])]
  simp [h1, List.getElem?_set, hl, hx]
theorem cntOn_congr {X : List DipC} {R R' : Nat → Bool} {n : Nat} {d : DipC} (h : ∀ y, y < n → R y = R' y) : cntOn X R n d = cntOn X R' n d := by
  unfold cntOn
  exact List.countP_congr fun y hy => by rw [h y (List.mem_range.1 hy)]
theorem cntD_range (X : List DipC) (d : DipC) : ∀ i, i ≤ X.length → cntD (X.take i) d = (List.range i).countP fun x => decide (X[x]? = some d)
  | 0, _ => by simp [cntD]
  | i + 1, hi => by
    rw [cntD_snoc (by omega), cntD_range X d i (by omega), List.range_succ, List.countP_append]
    simp [List.countP_cons, List.getElem?_eq_getElem (show i < X.length by omega)]
theorem cntOn_all {X : List DipC} {n : Nat} (hl : X.length = n) {R : Nat → Bool} (hR : ∀ y, y < n → R y = true) (d : DipC) : cntOn X R n d = cntD X d := by
  have := cntD_range X d X.length (Nat.le_refl _)
  rw [List.take_length, hl] at this
  rw [this]
  unfold cntOn
  exact List.countP_congr fun y hy => by rw [hR y (List.mem_range.1 hy)]; simp
theorem cntD_mono (D : List DipC) (d : DipC) {i k : Nat} (h : i ≤ k) : cntD (D.take i) d ≤ cntD (D.take k) d := by
  unfold cntD
  exact List.Sublist.countP_le (by
    have : D.take i = (D.take k).take i := by rw [List.take_take, Nat.min_eq_left h]
    rw [this]; exact List.take_sublist _ _)
theorem cntD_take_le (D : List DipC) (d : DipC) (i : Nat) : cntD (D.take i) d ≤ cntD D d := List.Sublist.countP_le (List.take_sublist _ _)
theorem countP_mem : ∀ (Q : List Nat) (n : Nat), Q.Nodup → (∀ x ∈ Q, x < n) → (List.range n).countP (fun y => decide (y ∈ Q)) = Q.length
  | [], n, _, _ => by simp
  | x :: Q, n, hn, h => by
    obtain ⟨h1, h2⟩ := List.nodup_cons.1 hn
    rw [countP_upd n (fun y => decide (y ∈ Q)) _ x (h x (by simp)) (by intro y hy; simp [hy]) (by simpa using h1), countP_mem Q n h2 fun y hy => h y (by simp [hy])]
    simp


structure J1 (P : PL) (D : List DipC) (S : List Int) (n i : Nat) (s : F1) : Prop where
  nd : s.2.2.Nodup
  keep : ∀ x, x < i → x ∉ s.2.2 → s.2.1[x]? = D[x]?
  op : ∀ x ∈ s.2.2, ∀ k (hk : k < P.length), D[x]? = some P[k].1 → S.getD k 0 ≤ cntD (D.take x) P[k].1
  lf : ∀ k (hk : k < P.length), s.1.getD k 0 = max (S.getD k 0 - cntD (D.take i) P[k].1) 0
  mem : ∀ x, x < i → x ∉ s.2.2 → ∃ k, ∃ hk : k < P.length, s.2.1[x]? = some P[k].1
  cnt : ∀ k (hk : k < P.length), (cntOn s.2.1 (fun x => decide (x < i) && !decide (x ∈ s.2.2)) n P[k].1 : Int) + s.1.getD k 0 = S.getD k 0
theorem fl1_J {P : PL} {D : List DipC} {S : List Int} {n : Nat} (hc : chkP P = 0) (hl : S.length = P.length) (hn : ∀ x ∈ S, 0 ≤ x) (hs : sumL S = n) (hD : D = [] ∨ D.length = n) : ∀ i, i ≤ n → J1 P D S n i (fl1 P D S n i)
  | 0, _ => by
    refine ⟨by simp [fl1], by intro x hx; omega, by simp [fl1], ?_, by intro x hx; omega, ?_⟩
    · intro k hk
      have := hn _ (List.getElem_mem (show k < S.length by omega))
      rw [← getD_at] at this
      have e : cntD (D.take 0) P[k].1 = 0 := by simp [cntD]
      rw [e]; show S.getD k 0 = _; omega
    · intro k hk
      have : cntOn (fl1 P D S n 0).2.1 (fun x => decide (x < 0) && !decide (x ∈ (fl1 P D S n 0).2.2)) n P[k].1 = 0 := by
        unfold cntOn; rw [List.countP_eq_zero]; intro x hx; simp
      rw [this]; simp [fl1]
  | i + 1, hi => by
    have I := fl1_inv (D := D) hl hn hs i (by omega)
    have J := fl1_J hc hl hn hs hD i (by omega)
    show J1 P D S n (i + 1) (step1 P D i (fl1 P D S n i))
    generalize fl1 P D S n i = s at I J ⊢
    obtain ⟨L, X, Q⟩ := s
    have hL := I.len
    have hX := I.xl
    have hiQ : i ∉ Q := fun h => by have := I.ql i h; omega
    simp only at hL hX
    by_cases hd : D = []
    · subst hd
      have es : step1 P [] i (L, X, Q) = (L, X, Q ++ [i]) := by unfold step1; rw [if_neg (by simp)]
      rw [es]
      refine ⟨?_, ?_, ?_, ?_, ?_, ?_⟩
      · rw [List.nodup_append]; exact ⟨J.nd, by simp, by intro a ha b hb; simp at hb; subst hb; rintro rfl; exact hiQ ha⟩
      · intro x hx hq
        simp only [List.mem_append, List.mem_singleton, not_or] at hq
        exact J.keep x (by omega) hq.1
      · intro x _ k hk h; simp at h
      · intro k hk; simpa using J.lf k hk
      · intro x hx hq
        simp only [List.mem_append, List.mem_singleton, not_or] at hq
        exact J.mem x (by omega) hq.1
      · intro k hk
        rw [← J.cnt k hk]
        congr 2
        refine cntOn_congr fun y hy => ?_
        simp only [List.mem_append, List.mem_singleton]
        by_cases e : y = i
        · subst e; simp
        · simp [e]; congr 1; simp; omega
    · have hDl : D.length = n := hD.resolve_left hd
      have hiD : i < D.length := by omega
      have eD : D.getD i zD = D[i] := by rw [List.getD_eq_getElem?_getD, List.getElem?_eq_getElem hiD, Option.getD_some]
      have eDs : D[i]? = some D[i] := List.getElem?_eq_getElem hiD
      by_cases hk : atP P D[i] < P.length ∧ L.getD (atP P D[i]) 0 ≠ 0
      · obtain ⟨hk, hz⟩ := hk
        have es : step1 P D i (L, X, Q) = (L.set (atP P D[i]) (L.getD (atP P D[i]) 0 - 1), X.set i D[i], Q) := by
          unfold step1; rw [eD, if_pos ⟨hd, hk, hz⟩]
        rw [es]
        have hg := atP_get hk
        generalize atP P D[i] = m at *
        have hmL : m < L.length := by omega
        have hge := I.nn _ (List.getElem_mem hmL)
        rw [← getD_at] at hge
        have hlm := J.lf m hk
        simp only at hge hlm
        refine ⟨J.nd, ?_, ?_, ?_, ?_, ?_⟩
        · intro x hx hq
          simp only at hq ⊢
          by_cases e : x = i
          · subst e; rw [List.getElem?_set_self (by omega), eDs]
          · rw [List.getElem?_set_ne (fun h => e h.symm)]; exact J.keep x (by omega) hq
        · intro x hx k hk' h
          exact J.op x hx k hk' h
        · intro k hk'
          simp only
          rw [getD_set _ _ _ _ hmL, cntD_snoc hiD]
          by_cases e : m = k
          · subst e
            rw [if_pos rfl, if_pos hg.symm]; omega
          · rw [if_neg e, if_neg (by rw [← hg]; intro h; exact e (dip_inj hc hk hk' h))]
            exact J.lf k hk'
        · intro x hx hq
          simp only at hq ⊢
          by_cases e : x = i
          · subst e; rw [List.getElem?_set_self (by omega)]; exact ⟨m, hk, by rw [hg]⟩
          · rw [List.getElem?_set_ne (fun h => e h.symm)]; exact J.mem x (by omega) hq
        · intro k hk'
          simp only
          rw [getD_set _ _ _ _ hmL, cntOn_set (R := fun x => decide (x < i) && !decide (x ∈ Q)) (by omega) hX (by simp) (by intro y hy; congr 1; simp; omega) (by simpa using hiQ), ← J.cnt k hk']
          by_cases e : m = k
          · subst e
            rw [if_pos rfl, if_pos hg.symm]; simp only; omega
          · rw [if_neg e, if_neg (by rw [← hg]; intro h; exact e (dip_inj hc hk hk' h))]; simp only; omega
      · have es : step1 P D i (L, X, Q) = (L, X, Q ++ [i]) := by
          unfold step1; rw [eD, if_neg (by intro h; exact hk h.2)]
        rw [es]
        have hzero : ∀ k (hk' : k < P.length), D[i] = P[k].1 → S.getD k 0 ≤ cntD (D.take i) P[k].1 := by
          intro k hk' he
          have e1 : atP P D[i] = k := by rw [he]; exact atP_eq hc hk'
          have e2 : L.getD k 0 = 0 := Classical.byContradiction fun h => hk ⟨by omega, by rw [e1]; exact h⟩
          have := J.lf k hk'
          simp only at this
          omega
        refine ⟨?_, ?_, ?_, ?_, ?_, ?_⟩
        · rw [List.nodup_append]; exact ⟨J.nd, by simp, by intro a ha b hb; simp at hb; subst hb; rintro rfl; exact hiQ ha⟩
        · intro x hx hq
          simp only [List.mem_append, List.mem_singleton, not_or] at hq
          exact J.keep x (by omega) hq.1
        · intro x hx k hk' h
          simp only [List.mem_append, List.mem_singleton] at hx
          rcases hx with hx | rfl
          · exact J.op x hx k hk' h
          · rw [eDs] at h; injection h with h; exact hzero k hk' h
        · intro k hk'
          rw [cntD_snoc hiD]
          have := J.lf k hk'
          simp only at this ⊢
          split
          · rename_i h; have := hzero k hk' h; omega
          · omega
        · intro x hx hq
          simp only [List.mem_append, List.mem_singleton, not_or] at hq
          exact J.mem x (by omega) hq.1
        · intro k hk'
          rw [← J.cnt k hk']
          congr 2
          refine cntOn_congr fun y hy => ?_
          simp only [List.mem_append, List.mem_singleton]
          by_cases e : y = i
          · subst e; simp
          · simp [e]; congr 1; simp; omega

end Go.Proofs.Ytlppbeoiphglcaa.L
