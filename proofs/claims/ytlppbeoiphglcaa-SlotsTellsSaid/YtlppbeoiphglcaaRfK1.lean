/- The reference's Fill: rounds of its first walk. -/
import Derived.Test.YtlppbeoiphglcaaRfK
set_option autoImplicit false
set_option maxRecDepth 100000
set_option linter.unusedVariables false
set_option linter.unusedSimpArgs false
namespace Go.Proofs.Ytlppbeoiphglcaa.L
open Go Go.Abs

variable {P : PL} {D : List DipC}
noncomputable def kpF (i : Nat) (s : F1) (x : Nat) : Bool := decide (x < i) && !decide (x ∈ s.2.2)
noncomputable def stRf1 (P : PL) (D : List DipC) (n : Nat) (s : F1) (i : Nat) : List AV × AHeap := (vRf1 D.length P.length n P.length i, hRf (dipsC D) (itP P) (intL s.1) (dipsC s.2.1) (kpL n (kpF i s)))
theorem stepRf1 {n i : Nat} {s : F1} (I : I1 P D n i s) (hn : n ≤ 64) (hP : P.length ≤ 32) (hD : D.length = n) (hi : i < n) :
    ∃ pr, qround Try.prog tRfL 100 4 pr noT RF1 mRf1 (stRf1 P D n s i).1 (stRf1 P D n s i).2 = some (.norm, (stRf1 P D n (step1 P D i s) (i + 1)).1, (stRf1 P D n (step1 P D i s) (i + 1)).2) := by
  obtain ⟨L, X, Q⟩ := s
  have hL := I.len
  have hX := I.xl
  simp only at hL hX
  have hiQ : i ∉ Q := fun h => by have := I.ql i h; omega
  have hd : D ≠ [] := by rintro rfl; simp at hD; omega
  have hiD : i < D.length := by omega
  have eD : D.getD i zD = D[i] := by rw [List.getD_eq_getElem?_getD, List.getElem?_eq_getElem hiD, Option.getD_some]
  have e5 := wrap1 (i := i) (by omega)
  have e6 : 0 + (i : Int).toNat * 18 = i * 18 := by omega
  have e7 := dipsC_at hiD
  have hlD := dipsC_length D
  have hlX := dipsC_length X
  have U := plU (P := P) (d := D[i]) (h := hRf (dipsC D) (itP P) (intL L) (dipsC X) (kpL n (kpF i (L, X, Q)))) (a := .sl (some (1, 0)) P.length 0 false) (rowP_blk rfl rfl) rfl (by omega)
  obtain ⟨U1, U2⟩ := U
  by_cases hk : atP P D[i] < P.length ∧ L.getD (atP P D[i]) 0 ≠ 0
  · obtain ⟨hk, hz⟩ := hk
    have hkL : atP P D[i] < L.length := by omega
    rw [getD_at hkL] at hz
    have es : step1 P D i (L, X, Q) = (L.set (atP P D[i]) (L[atP P D[i]] - 1), X.set i D[i], Q) := by
      unfold step1; rw [eD, if_pos ⟨hd, hk, by rw [getD_at hkL]; exact hz⟩]; simp only [getD_at hkL]
    have ex : ixP P D[i] = (atP P D[i] : Nat) := by unfold ixP; rw [if_pos hk]
    have hnn := I.nn _ (List.getElem_mem hkL)
    have hle : L[atP P D[i]] ≤ 1000000 := by
      have h1 := mem_le_sum I.nn _ (List.getElem_mem hkL)
      have h2 := I.sm
      have h3 := I.qi
      simp only at h1 h2 h3; omega
    have a1 : intV (some (.int .i64 L[atP P D[i]])) = L[atP P D[i]] := rfl
    have a2 : IntKind.i64.wrap (L[atP P D[i]] - 1) = L[atP P D[i]] - 1 := wrapI64 (by omega)
    have a5 : putCells (dipsC X) (i * 18) D[i].cells = dipsC (X.set i D[i]) := dipsC_set (by omega) _
    have a6 : kpL n (fun x => decide (x = i) || kpF i (L, X, Q) x) = kpL n (kpF (i + 1) (L.set (atP P D[i]) (L[atP P D[i]] - 1), X.set i D[i], Q)) := kpL_congr fun x hx => by
      unfold kpF
      by_cases e : x = i
      · subst e; simp [hiQ]
      · simp only [e, decide_false, Bool.false_or]; congr 1; rw [decide_eq_decide]; omega
    have hh : hRf1a0 (dipsC D) (itP P) (intL L) (dipsC X) (kpL n (kpF i (L, X, Q))) D.length P.length n P.length i = hRf (dipsC D) (itP P) (intL L) (dipsC X) (kpL n (kpF i (L, X, Q))) := rfl
    refine ⟨[(50, .bool true), (67, .bool true)], (nfRf1a ..).trans ?_⟩
    unfold hRf1a2
    rw [es]
    simp only [hh, e6, e7, U2, ex, intL_at hkL, a1, a2, intL_put hkL, a5, kpL_put hi, a6, e5]
    refine (if_pos (by simp; omega)).trans ?_
    refine (if_pos (by omega)).trans ?_
    refine (if_pos (by omega)).trans ?_
    refine (if_pos (cdec_true.2 (by rw [U2, ex] at U1; exact U1))).trans ?_
    repeat (first | (refine (if_pos ?_).trans ?_; · first | rfl | omega | (simp; omega) | (simp; done) | exact ⟨by rw [DipC.cells_length]; omega, cells_isCell _⟩ | exact ⟨by simp; omega, rfl⟩))
    rfl
  · have es : step1 P D i (L, X, Q) = (L, X, Q ++ [i]) := by
      unfold step1; rw [eD, if_neg (by intro h; exact hk h.2)]
    have a6 : kpL n (kpF i (L, X, Q)) = kpL n (kpF (i + 1) (L, X, Q ++ [i])) := kpL_congr fun x hx => by
      unfold kpF
      simp only [List.mem_append, List.mem_singleton]
      by_cases e : x = i
      · subst e; simp
      · simp only [e, or_false]; congr 1; rw [decide_eq_decide]; omega
    have hh : hRf1b0 (dipsC D) (itP P) (intL L) (dipsC X) (kpL n (kpF i (L, X, Q))) D.length P.length n P.length i = hRf (dipsC D) (itP P) (intL L) (dipsC X) (kpL n (kpF i (L, X, Q))) := rfl
    refine ⟨[(50, .bool true), (67, .bool false)], (nfRf1b ..).trans ?_⟩
    rw [es]
    simp only [hh, e6, e7, U2, e5]
    refine (if_pos (by simp; omega)).trans ?_
    refine (if_pos (by omega)).trans ?_
    refine (if_pos (by omega)).trans ?_
    refine (if_pos (cdec_true.2 (by rw [U2] at U1; exact U1))).trans ?_
    unfold stRf1
    simp only []
    rw [← a6]
    by_cases hk1 : atP P D[i] < P.length
    · have ex : ixP P D[i] = (atP P D[i] : Nat) := by unfold ixP; rw [if_pos hk1]
      have hkL : atP P D[i] < L.length := by omega
      have hz : L[atP P D[i]] = 0 := Classical.byContradiction fun h => hk ⟨hk1, by rw [getD_at hkL]; exact h⟩
      simp only [ex, intL_at hkL, hz]
      refine (if_pos (by simp)).trans ?_
      refine (if_pos (by omega)).trans ?_
      refine (if_pos rfl).trans ?_
      refine (if_pos rfl).trans ?_
      rfl
    · have ex : ixP P D[i] = -1 := by unfold ixP; rw [if_neg hk1]
      simp only [ex]
      refine (if_neg (by decide)).trans ?_
      rfl

end Go.Proofs.Ytlppbeoiphglcaa.L
