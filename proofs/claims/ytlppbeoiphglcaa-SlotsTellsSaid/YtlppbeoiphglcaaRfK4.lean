/- The reference's Fill: an open place of its second walk. -/
import Derived.Test.YtlppbeoiphglcaaRfK3
set_option autoImplicit false
set_option maxRecDepth 100000
set_option linter.unusedVariables false
set_option linter.unusedSimpArgs false
namespace Go.Proofs.Ytlppbeoiphglcaa.L
open Go Go.Abs

variable {P : PL} {D : List DipC} {S : List Int} {n : Nat}
theorem fl1_up : ∀ i, (fl1 P D S n i).2.2.Pairwise (· < ·)
  | 0 => by simp [fl1]
  | i + 1 => by
    rcases fl1_Q (P := P) (D := D) (S := S) (n := n) i with e | e
    · rw [e]; exact fl1_up i
    · rw [e, List.pairwise_append]
      refine ⟨fl1_up i, by simp, ?_⟩
      intro a ha b hb
      simp at hb; rw [hb]
      exact fl1_lt i a ha
theorem kpL_set {i : Nat} {f : Nat → Bool} (hi : i < n) : (kpL n f).set i (.bool true) = kpL n (fun x => decide (x = i) || f x) := by
  have := kpL_put (n := n) (f := f) hi
  rw [show 0 + (i : Int).toNat * 1 = i from by omega] at this
  exact this
theorem stepRf2t (hc : chkP P = 0) (hl : S.length = P.length) (hS : ∀ x ∈ S, 0 ≤ x) (hs : sumL S = n) (h64 : n ≤ 64) {i : Nat} (hi : i < n) (hk : i ∈ (fl1 P D S n n).2.2) : qround Try.prog tRfL 100 4 [(86, .bool true)] lsRf RF2 mRf2 (stRf2 P D S n i).1 (stRf2 P D S n i).2 = some (.norm, (stRf2 P D S n (i + 1)).1, (stRf2 P D S n (i + 1)).2) := by
  have hP := chk_len hc
  have hat := fl1_at hi hk
  have hop := fl1_opened hi hk
  have ej : jQ P D S n (i + 1) = jQ P D S n i + 1 := by unfold jQ; rw [hop]; simp
  have hjl : jQ P D S n i < (fl1 P D S n n).2.2.length := (List.getElem?_eq_some_iff.1 hat).1
  have hQj : (fl1 P D S n n).2.2[jQ P D S n i] = i := (List.getElem?_eq_some_iff.1 hat).2
  have I := fl2_inv (D := D) hl hS hs (jQ P D S n i) (by omega)
  have hsucc := fl2_succ (P := P) (D := D) (S := S) (n := n) hjl
  rw [hQj] at hsucc
  have hdrop : (fl1 P D S n n).2.2.drop (jQ P D S n i) = i :: (fl1 P D S n n).2.2.drop (jQ P D S n i + 1) := by
    rw [List.drop_eq_getElem_cons hjl, hQj]
  have hup : (i :: (fl1 P D S n n).2.2.drop (jQ P D S n i + 1)).Pairwise (· < ·) := by
    rw [← hdrop]; exact (fl1_up n).sublist (List.drop_sublist _ _)
  have hni : i ∉ (fl1 P D S n n).2.2.drop (jQ P D S n i + 1) := fun h => by
    have := (List.pairwise_cons.1 hup).1 i h; omega
  have hql : (fl1 P D S n n).2.2.length ≤ n := (fl1_inv (D := D) hl hS hs n (Nat.le_refl _)).qi
  clear hQj hat hop hup
  unfold stRf2
  rw [ej, hsucc, hdrop]
  clear hsucc hdrop ej
  generalize (fl1 P D S n n).2.2.drop (jQ P D S n i + 1) = T at *
  generalize (fl1 P D S n n).2.2.length = m at *
  generalize fl2 P D S n (jQ P D S n i) = s at *
  generalize jQ P D S n i = j at *
  obtain ⟨L, X, a⟩ := s
  have hs0 : 0 < sumL L := by have := I.sm; simp only at this; omega
  have hz0 := nz_zero I.nn I.az hs0
  obtain ⟨h1, h2, h3, h4⟩ := nz_spec I.nn I.az hs0
  have hL := I.len
  have hX := I.xl
  simp only at h1 h2 h3 h4 hL hX hz0
  have hk' : nzN L a < P.length := by omega
  have eP : (P.getD (nzN L a) (zD, 0)).1 = P[nzN L a].1 := by rw [List.getD_eq_getElem?_getD, List.getElem?_eq_getElem hk', Option.getD_some]
  have eL : L.getD (nzN L a) 0 = L[nzN L a] := getD_at h1
  have hnn := I.nn _ (List.getElem_mem h1)
  have hle := mem_le_sum I.nn _ (List.getElem_mem h1)
  have hsm := I.sm
  simp only at hle hsm hnn
  have es : step2 P (L, X, a) i = (L.set (nzN L a) (L[nzN L a] - 1), X.set i P[nzN L a].1, nzN L a) := by unfold step2; simp only [eP, eL]
  have hf : (fun x => !decide (x ∈ i :: T)) i = false := by simp
  have a6 : kpL n (fun x => decide (x = i) || !decide (x ∈ i :: T)) = kpL n (fun x => !decide (x ∈ T)) := kpL_congr fun x hx => by
    by_cases e : x = i
    · subst e; simp [hni]
    · simp [e]
  have a8 : (kpL n fun x => !decide (x ∈ i :: T)).set i (.bool true) = kpL n (fun x => !decide (x ∈ T)) := by rw [kpL_set hi]; exact a6
  have sT := saysRfT (P := P) (D := D) (n := n) (i := i) (k := nzN L a) (L := L) (X := X) (f := fun x => !decide (x ∈ i :: T)) hP hL hX hi hf h1 (by omega) (by omega) (fun j hj => h4 j hj)
  rw [a6] at sT
  rw [es]
  have hrow : plOf (rowOf (hRf2a0 (dipsC D) (itP P) (intL L) (dipsC X) (kpL n fun x => !decide (x ∈ i :: T)) P.length n P.length i) (AV.sl (some (1, 0)) P.length 0 false)) = P := by
    have g := (rowP_blk (P := P) (h := hRf2a0 (dipsC D) (itP P) (intL L) (dipsC X) (kpL n fun x => !decide (x ∈ i :: T)) P.length n P.length i) (k := 1) (n := P.length) (r := 0) (e := false) rfl rfl).2
    rw [g, plOf_eq]
  have a7 : putCells (dipsC X) ((i : Int).toNat * 18) P[nzN L a].1.cells = dipsC (X.set i P[nzN L a].1) := by
    rw [Int.toNat_natCast]; exact dipsC_set (by omega) _
  have a9 : (i : Int).toNat = i := Int.toNat_natCast _
  have hh : hRf2a1 (dipsC D) (itP P) (intL L) (dipsC X) (kpL n fun x => !decide (x ∈ i :: T)) P.length n P.length i = hRf (dipsC D) (itP P) (intL (L.set (nzN L a) (L[nzN L a] - 1))) (dipsC (X.set i P[nzN L a].1)) (kpL n fun x => !decide (x ∈ T)) := by
    unfold hRf2a1 hRf
    simp only [opq_eq, ilOf_eq, hz0, eL, eP, hrow, a9, a8]
    rw [show putCells (dipsC X) (i * 18) P[nzN L a].1.cells = dipsC (X.set i P[nzN L a].1) from dipsC_set (by omega) _]
  refine (nfRf2a ..).trans ?_
  refine (if_pos (by simp; omega)).trans ?_
  refine (if_neg (by rw [show hRf2a0 (dipsC D) (itP P) (intL L) (dipsC X) (kpL n fun x => !decide (x ∈ i :: T)) P.length n P.length i = hRf (dipsC D) (itP P) (intL L) (dipsC X) (kpL n fun x => !decide (x ∈ i :: T)) from rfl, keptB_eq hi]; simp)).trans ?_
  rw [hh, ilOf_eq, opq_eq, hz0, wrap1 (by omega)]
  refine (if_pos (cdec_true.2 sT)).trans ?_
  rfl

end Go.Proofs.Ytlppbeoiphglcaa.L
