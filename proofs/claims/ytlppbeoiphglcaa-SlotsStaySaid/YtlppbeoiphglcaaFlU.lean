/- Fill: who has what, in the end. -/
import Derived.Test.YtlppbeoiphglcaaFlT
set_option autoImplicit false
set_option maxRecDepth 100000
set_option linter.unusedVariables false
set_option linter.unusedSimpArgs false
namespace Go.Proofs.Ytlppbeoiphglcaa.L
open Go Go.Abs

structure J2 (P : PL) (D : List DipC) (S : List Int) (n : Nat) (Q : List Nat) (L1 : List Int) (j : Nat) (s : F2) : Prop where
  keep : ∀ x, x < n → x ∉ Q → s.2.1[x]? = D[x]?
  new : D.length = n → ∀ x, x ∈ Q.take j → s.2.1[x]? ≠ D[x]?
  lf : ∀ k, k < P.length → s.1.getD k 0 ≤ L1.getD k 0
  mem : ∀ x, x < n → x ∉ Q.drop j → ∃ k, ∃ hk : k < P.length, s.2.1[x]? = some P[k].1
  cnt : ∀ k (hk : k < P.length), (cntOn s.2.1 (fun x => !decide (x ∈ Q.drop j)) n P[k].1 : Int) + s.1.getD k 0 = S.getD k 0
theorem fl2_J {P : PL} {D : List DipC} {S : List Int} {n : Nat} (hc : chkP P = 0) (hl : S.length = P.length) (hn : ∀ x ∈ S, 0 ≤ x) (hs : sumL S = n) (hD : D = [] ∨ D.length = n) : ∀ j, j ≤ (fl1 P D S n n).2.2.length → J2 P D S n (fl1 P D S n n).2.2 (fl1 P D S n n).1 j (fl2 P D S n j)
  | 0, _ => by
    have I := fl1_inv (D := D) hl hn hs n (Nat.le_refl _)
    have J := fl1_J hc hl hn hs hD n (Nat.le_refl _)
    have e : fl2 P D S n 0 = ((fl1 P D S n n).1, (fl1 P D S n n).2.1, 0) := by simp [fl2]
    rw [e]
    refine ⟨fun x hx hq => J.keep x hx hq, by simp, fun k hk => Int.le_refl _, fun x hx hq => J.mem x hx (by simpa using hq), fun k hk => ?_⟩
    rw [← J.cnt k hk]
    congr 2
    refine cntOn_congr fun y hy => ?_
    simp [hy]
  | j + 1, hj => by
    have I1 := fl1_inv (D := D) hl hn hs n (Nat.le_refl _)
    have J1 := fl1_J hc hl hn hs hD n (Nat.le_refl _)
    have J := fl2_J hc hl hn hs hD j (by omega)
    have I := fl2_inv (D := D) hl hn hs j (by omega)
    have hjQ : j < (fl1 P D S n n).2.2.length := by omega
    rw [fl2_succ hjQ]
    have hql := I1.ql
    have hnd := J1.nd
    have hop := J1.op
    have hlf := J1.lf
    generalize hQ : (fl1 P D S n n).2.2 = Q at *
    generalize hL1 : (fl1 P D S n n).1 = L1 at *
    generalize fl2 P D S n j = s at *
    have hs' : 0 < sumL s.1 := by have := I.sm; omega
    obtain ⟨h1, h2, h3, h4⟩ := nz_spec I.nn I.az hs'
    obtain ⟨L, X, a⟩ := s
    have hL := I.len
    have hX := I.xl
    simp only at h1 h2 h3 h4 hL hX
    have hm : nzN L a < P.length := by omega
    have eP : (P.getD (nzN L a) (zD, 0)).1 = P[nzN L a].1 := by rw [List.getD_eq_getElem?_getD, List.getElem?_eq_getElem hm, Option.getD_some]
    have es : step2 P (L, X, a) Q[j] = (L.set (nzN L a) (L.getD (nzN L a) 0 - 1), X.set Q[j] P[nzN L a].1, nzN L a) := by unfold step2; simp only [eP]
    rw [es]
    have hge := I.nn _ (List.getElem_mem h1)
    rw [← getD_at] at h3 hge
    generalize nzN L a = m at *
    have hx := hql _ (List.getElem_mem hjQ)
    have hdrop : Q.drop j = Q[j] :: Q.drop (j + 1) := List.drop_eq_getElem_cons hjQ
    have hnd2 : Q[j] ∉ Q.drop (j + 1) := by
      have := hnd.sublist (List.drop_sublist j Q)
      rw [hdrop] at this
      exact (List.nodup_cons.1 this).1
    have htk : Q.take (j + 1) = Q.take j ++ [Q[j]] := take_snoc hjQ
    have hnt : Q[j] ∉ Q.take j := by
      have := hnd.sublist (List.take_sublist (j + 1) Q)
      rw [htk, List.nodup_append] at this
      intro h
      exact this.2.2 _ h _ (by simp) rfl
    refine ⟨?_, ?_, ?_, ?_, ?_⟩
    · intro x hx' hq
      simp only
      rw [List.getElem?_set_ne (by rintro rfl; exact hq (List.getElem_mem hjQ))]
      exact J.keep x hx' hq
    · intro hDl x hq
      simp only
      rw [htk] at hq
      rcases List.mem_append.1 hq with hq | hq
      · rw [List.getElem?_set_ne (by rintro rfl; exact hnt hq)]
        exact J.new hDl x hq
      · simp only [List.mem_singleton] at hq
        subst hq
        rw [List.getElem?_set_self (by omega)]
        intro h
        have h5 := hop _ (List.getElem_mem hjQ) m hm h.symm
        have h6 := hlf m hm
        have h7 := J.lf m hm
        have h8 := cntD_mono D P[m].1 (show Q[j] ≤ n by omega)
        simp only at h7
        omega
    · intro k hk
      simp only
      rw [getD_set _ _ _ _ h1]
      have := J.lf k hk
      simp only at this
      split
      · rename_i e; subst e; omega
      · exact this
    · intro x hx' hq
      simp only
      by_cases e : x = Q[j]
      · subst e
        rw [List.getElem?_set_self (by omega)]
        exact ⟨m, hm, rfl⟩
      · rw [List.getElem?_set_ne (fun h => e h.symm)]
        exact J.mem x hx' (by rw [hdrop, List.mem_cons, not_or]; exact ⟨e, hq⟩)
    · intro k hk
      simp only
      rw [getD_set _ _ _ _ h1, cntOn_set (R := fun x => !decide (x ∈ Q.drop j)) hx hX (by show (!decide (Q[j] ∈ Q.drop j)) = false; rw [decide_eq_true (by rw [hdrop]; exact List.mem_cons_self)]; rfl) (by intro y hy; show (!decide (y ∈ Q.drop (j + 1))) = (!decide (y ∈ Q.drop j)); congr 1; rw [decide_eq_decide, hdrop, List.mem_cons]; exact ⟨.inr, fun h => h.resolve_left hy⟩) (by simpa using hnd2), ← J.cnt k hk]
      by_cases e : m = k
      · subst e
        rw [if_pos rfl, if_pos rfl]; simp only; omega
      · rw [if_neg e, if_neg (fun h => e (dip_inj hc hm hk h))]; simp only; omega

variable {P : PL} {D : List DipC} {S : List Int} {n : Nat}
theorem flX_len (hl : S.length = P.length) (hn : ∀ x ∈ S, 0 ≤ x) (hs : sumL S = n) : (flX P D S n).length = n := (fl2_inv (D := D) hl hn hs _ (Nat.le_refl _)).xl
theorem flX_cnt (hc : chkP P = 0) (hl : S.length = P.length) (hn : ∀ x ∈ S, 0 ≤ x) (hs : sumL S = n) (hD : D = [] ∨ D.length = n) {k : Nat} (hk : k < P.length) : (cntD (flX P D S n) P[k].1 : Int) = S.getD k 0 := by
  have J := fl2_J hc hl hn hs hD _ (Nat.le_refl _)
  have I := fl2_inv (D := D) hl hn hs _ (Nat.le_refl _)
  have h := J.cnt k hk
  rw [cntOn_all I.xl (by intro y hy; simp)] at h
  have hkL : k < (fl2 P D S n (fl1 P D S n n).2.2.length).1.length := by rw [I.len]; exact hk
  have h0 := I.nn _ (List.getElem_mem hkL)
  have h1 := mem_le_sum I.nn _ (List.getElem_mem hkL)
  have h2 := I.sm
  rw [getD_at hkL] at h
  unfold flX
  omega
theorem flX_moved (hc : chkP P = 0) (hl : S.length = P.length) (hn : ∀ x ∈ S, 0 ≤ x) (hs : sumL S = n) (hD : D.length = n) : (movP D (flX P D S n) : Int) = sumL (fl1 P D S n n).1 := by
  have I1 := fl1_inv (D := D) hl hn hs n (Nat.le_refl _)
  have J1 := fl1_J hc hl hn hs (.inr hD) n (Nat.le_refl _)
  have J := fl2_J hc hl hn hs (.inr hD) _ (Nat.le_refl _)
  have hx := flX_len (D := D) hl hn hs
  have e : movP D (flX P D S n) = (fl1 P D S n n).2.2.length := by
    unfold movP movN
    rw [hx, hD, Nat.max_self, ← countP_mem _ n J1.nd I1.ql]
    refine List.countP_congr fun y hy => ?_
    have hy := List.mem_range.1 hy
    unfold mvAt
    by_cases hq : y ∈ (fl1 P D S n n).2.2
    · have := J.new hD y (by rwa [List.take_length])
      simp only [hq, decide_true, Bool.not_eq_true', decide_eq_false_iff_not, iff_true]
      exact fun h => this h.symm
    · have := J.keep y hy hq
      simp only [hq, decide_false, Bool.not_eq_true', decide_eq_false_iff_not, Bool.false_eq_true, iff_false, Classical.not_not]
      exact this.symm
  rw [e]
  have := I1.sm
  omega
theorem fl1_left (hc : chkP P = 0) (hl : S.length = P.length) (hn : ∀ x ∈ S, 0 ≤ x) (hs : sumL S = n) (hD : D.length = n) {k : Nat} (hk : k < P.length) : (fl1 P D S n n).1.getD k 0 = max (S.getD k 0 - cntD D P[k].1) 0 := by
  have J1 := fl1_J hc hl hn hs (.inr hD) n (Nat.le_refl _)
  have := J1.lf k hk
  rwa [List.take_of_length_le (by omega)] at this
theorem flX_stay (hc : chkP P = 0) (hl : S.length = P.length) (hn : ∀ x ∈ S, 0 ≤ x) (hs : sumL S = n) (hD : D.length = n) {k : Nat} (hk : k < P.length) (hle : (cntD D P[k].1 : Int) ≤ S.getD k 0) {x : Nat} (hx : x < n) (he : D[x]? = some P[k].1) : (flX P D S n)[x]? = some P[k].1 := by
  have J1 := fl1_J hc hl hn hs (.inr hD) n (Nat.le_refl _)
  have J := fl2_J hc hl hn hs (.inr hD) _ (Nat.le_refl _)
  by_cases hq : x ∈ (fl1 P D S n n).2.2
  · have h1 := J1.op x hq k hk he
    have hxD : x < D.length := by omega
    have h2 := cntD_snoc (D := D) (d := P[k].1) hxD
    rw [List.getElem?_eq_getElem hxD] at he
    injection he with he
    rw [if_pos he] at h2
    have h3 := cntD_take_le D P[k].1 (x + 1)
    omega
  · rw [← he]
    exact J.keep x hx hq

end Go.Proofs.Ytlppbeoiphglcaa.L
