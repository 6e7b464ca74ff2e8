/- The reference's Fill: its second walk. -/
import Derived.Test.YtlppbeoiphglcaaRfK1
set_option autoImplicit false
set_option maxRecDepth 100000
set_option linter.unusedVariables false
set_option linter.unusedSimpArgs false
namespace Go.Proofs.Ytlppbeoiphglcaa.L
open Go Go.Abs

variable {P : PL} {D : List DipC}
theorem saysRfK {n i : Nat} {L : List Int} {X : List DipC} {f : Nat → Bool} (hi : i < n) (hf : f i = true) :
    LSays bRf3 5 (vRf3 P.length n P.length i 0) (hRf (dipsC D) (itP P) (intL L) (dipsC X) (kpL n f)) (.exit 4) (vRf3 P.length n P.length i 0) (hRf (dipsC D) (itP P) (intL L) (dipsC X) (kpL n f)) := by
  refine says_up (fun _ => vRf3 P.length n P.length i 0) (N := 0) (by simp) rfl rfl (fun j hj => absurd hj (Nat.not_lt_zero _)) ⟨[(99, .bool false)], (nfRf3s ..).trans ?_⟩
  rw [kpL_at hi, hf]
  by_cases hp : (0 : Int) < P.length
  · refine (if_pos (decide_eq_true hp)).trans ?_
    refine (if_pos (by omega)).trans ?_
    refine (if_pos rfl).trans ?_
    exact if_pos rfl
  · exact if_neg (by simpa using hp)

theorem rowRf3b {n i k : Nat} {L : List Int} {X : List DipC} {f : Nat → Bool} (hP : P.length ≤ 32) (hL : L.length = P.length) (hi : i < n) (hf : f i = false) (hk : k < L.length) (hz : L[k] = 0) :
    qround Try.prog tRfL 100 4 [(99, .bool true), (106, .bool false)] noT RF3 mRf3 (vRf3 P.length n P.length i k) (hRf (dipsC D) (itP P) (intL L) (dipsC X) (kpL n f)) = some (.norm, vRf3 P.length n P.length i ((k + 1 : Nat) : Int), hRf (dipsC D) (itP P) (intL L) (dipsC X) (kpL n f)) := by
  refine (nfRf3b ..).trans ?_
  simp only [kpL_at hi, hf, intL_at hk, hz, wrap1 (i := k) (by omega)]
  refine (if_pos (by simp; omega)).trans ?_
  refine (if_pos (by omega)).trans ?_
  refine (if_pos rfl).trans ?_
  refine (if_pos rfl).trans ?_
  refine (if_pos (by omega)).trans ?_
  refine (if_pos rfl).trans ?_
  refine (if_pos rfl).trans ?_
  rfl
theorem rowRf3a {n i k : Nat} {L : List Int} {X : List DipC} {f : Nat → Bool} (hP : P.length ≤ 32) (hL : L.length = P.length) (hX : X.length = n) (hi : i < n) (hf : f i = false) (hk : k < L.length) (hz : 0 < L[k]) (hb : L[k] ≤ 1000000) :
    qround Try.prog tRfL 100 4 [(99, .bool true), (106, .bool true)] noT RF3 mRf3 (vRf3 P.length n P.length i k) (hRf (dipsC D) (itP P) (intL L) (dipsC X) (kpL n f)) = some (.norm, vRf3 P.length n P.length i ((k + 1 : Nat) : Int), hRf (dipsC D) (itP P) (intL (L.set k (L[k] - 1))) (dipsC (X.set i (P[k]'(by omega)).1)) (kpL n (fun x => decide (x = i) || f x))) := by
  have hk' : k < P.length := by omega
  have a1 : intV (some (.int .i64 L[k])) = L[k] := rfl
  have a2 : IntKind.i64.wrap (L[k] - 1) = L[k] - 1 := wrapI64 (by omega)
  have e7 : 0 + (k : Int).toNat * 19 + 0 = k * 19 := by omega
  have e8 : 0 + (i : Int).toNat * 18 = i * 18 := by omega
  have e9 : putCells (dipsC X) (i * 18) P[k].1.cells = dipsC (X.set i P[k].1) := dipsC_set (by omega) _
  have hlP := itP_length P
  have hlX := dipsC_length X
  refine (nfRf3a ..).trans ?_
  unfold hRf3a0
  simp only [kpL_at hi, hf, intL_at hk, a1, a2, intL_put hk, e7, e8, itP_18 hk', e9, kpL_put hi, wrap1 (i := k) (by omega)]
  refine (if_pos (by simp; omega)).trans ?_
  refine (if_pos (by omega)).trans ?_
  refine (if_pos rfl).trans ?_
  refine (if_pos rfl).trans ?_
  refine (if_pos (by omega)).trans ?_
  refine (if_pos rfl).trans ?_
  refine (if_pos (by simpa using hz)).trans ?_
  repeat (first | (refine (if_pos ?_).trans ?_; · first | rfl | omega | (simp; omega) | (simp; done) | exact ⟨by rw [DipC.cells_length]; omega, cells_isCell _⟩ | exact ⟨by simp; omega, rfl⟩))
  rfl

theorem saysRfT {n i k : Nat} {L : List Int} {X : List DipC} {f : Nat → Bool} (hP : P.length ≤ 32) (hL : L.length = P.length) (hX : X.length = n) (hi : i < n) (hf : f i = false) (hk : k < L.length) (hz : 0 < L[k]) (hb : L[k] ≤ 1000000) (h0 : ∀ j (hj : j < L.length), j < k → L[j] = 0) :
    LSays bRf3 5 (vRf3 P.length n P.length i 0) (hRf (dipsC D) (itP P) (intL L) (dipsC X) (kpL n f)) (.exit 4) (vRf3 P.length n P.length i ((k + 1 : Nat) : Int)) (hRf (dipsC D) (itP P) (intL (L.set k (L[k] - 1))) (dipsC (X.set i (P[k]'(by omega)).1)) (kpL n (fun x => decide (x = i) || f x))) := by
  have hk' : k < P.length := by omega
  let H0 := hRf (dipsC D) (itP P) (intL L) (dipsC X) (kpL n f)
  let H1 := hRf (dipsC D) (itP P) (intL (L.set k (L[k] - 1))) (dipsC (X.set i P[k].1)) (kpL n (fun x => decide (x = i) || f x))
  have main := loop_T (P := Try.prog) (t := tRfL) (F := 100) (n := 4) (LS := noT) (c := RF3) (m := mRf3) (n0 := 5) (fun j => (vRf3 P.length n P.length i (j : Nat), if j ≤ k then H0 else H1)) (N := k + 1) (e := .exit 4) (vs := vRf3 P.length n P.length i ((k + 1 : Nat) : Int)) (h := H1) (by simp) (fun j hj => by
    by_cases hjk : j < k
    · refine ⟨[(99, .bool true), (106, .bool false)], vRf3 P.length n P.length i ((j + 1 : Nat) : Int), H0, ?_, ?_⟩
      · rw [if_pos (by omega)]; exact rowRf3b hP hL hi hf (by omega) (h0 j (by omega) hjk)
      · rw [if_pos (by omega)]; exact Gc.refl
    · have hj : j = k := by omega
      subst hj
      refine ⟨[(99, .bool true), (106, .bool true)], vRf3 P.length n P.length i ((j + 1 : Nat) : Int), H1, ?_, ?_⟩
      · rw [if_pos (by omega)]; exact rowRf3a hP hL hX hi hf hk hz hb
      · rw [if_neg (by omega)]; exact Gc.refl) ⟨[(99, .bool false)], _, _, by
      rw [if_neg (by omega)]
      refine (nfRf3s ..).trans ?_
      rw [kpL_at hi]
      simp only [decide_true, Bool.true_or]
      by_cases hp : ((k + 1 : Nat) : Int) < P.length
      · refine (if_pos (decide_eq_true hp)).trans ?_
        refine (if_pos (by omega)).trans ?_
        refine (if_pos rfl).trans ?_
        exact if_pos rfl
      · exact if_neg (by simpa using hp), Gc.refl⟩
  rw [if_pos (Nat.zero_le _)] at main
  exact .mk main

end Go.Proofs.Ytlppbeoiphglcaa.L
