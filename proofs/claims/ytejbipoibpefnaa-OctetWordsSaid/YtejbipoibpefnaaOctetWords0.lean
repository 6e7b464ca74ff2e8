/- OctetWords' run. -/
import Derived.Test.YtejbipoibpefnaaOctetWordsN
set_option autoImplicit false
set_option maxRecDepth 100000
set_option linter.unusedVariables false
set_option linter.unusedSimpArgs false
namespace Go.Proofs.Ytejbipoibpefnaa.L
open Go Go.Abs

theorem atA_get {n i : Nat} (h : i < n) : (atA n)[i]? = some (.int .i64 (2 * (i : Int))) := by simp [atA, atsI, h]
theorem wdA_get {l : List UInt8} {n i : Nat} (h : i < n) : (wdA l n)[i]? = some (.int .u16 (word l (2 * i))) := by simp [wdA, wdsI, h]
theorem isI {k : IntKind} {x : Int} : isIntV k (some (.int k x)) = true := by simp [isIntV]
theorem intI {k : IntKind} {x : Int} : intV (some (.int k x)) = x := rfl

theorem stepOW00 {l : List UInt8} {n c i : Nat} (hl : l.length ≤ 300) (hi : i < n) (h2 : 2 * i + 1 < l.length) (hc : ¬ i < c) :
    qround Try.prog [] 100 4 [(65, .bool true), (80, .bool true), (109, .bool false), (132, .bool false)] noT OW mOW (vOW l n c i) (hOW l n c) = some (.norm, vOW l n c ((i + 1 : Nat) : Int), hOW l n c) := by
  rw [nfOW00]
  have e0 : 0 + (i : Int).toNat * 1 = i := by omega
  have e1 : IntKind.i64.wrap (2 * (i : Int)) = 2 * i := wrapI64 (by omega)
  have e2 : 0 + (2 * (i : Int)).toNat * 1 = 2 * i := by omega
  have e3 : IntKind.i64.wrap (2 * (i : Int) + 1) = 2 * i + 1 := wrapI64 (by omega)
  have e4 : 0 + (2 * (i : Int) + 1).toNat * 1 = 2 * i + 1 := by omega
  have e5 : IntKind.i64.wrap ((i : Int) + 1) = ((i + 1 : Nat) : Int) := by rw [wrapI64 (by omega)]; omega
  have w0 := wordV0 h2
  simp only [e0, e1, e2, e3, e4, e5, w0, atA_get hi, wdA_get hi, isI, intI]
  refine (if_pos (by simp; omega)).trans ?_
  refine (if_pos (by omega)).trans ?_
  refine (if_pos (isB (by omega))).trans ?_
  refine (if_pos (by simp; omega)).trans ?_
  refine (if_pos (by omega)).trans ?_
  refine (if_pos (isB (by omega))).trans ?_
  repeat (first | (refine (if_pos ?_).trans ?_; · first | rfl | omega | (simp; done) | (simp; omega)) | (refine (if_neg ?_).trans ?_; · first | (simp; done) | (simp; omega)))
  rfl

theorem stepOW01 {l : List UInt8} {n c i : Nat} (hl : l.length ≤ 300) (hi : i < n) (h2 : 2 * i + 1 < l.length) (hc : i < c) :
    qround Try.prog [] 100 4 [(65, .bool true), (80, .bool true), (109, .bool true), (132, .bool false)] noT OW mOW (vOW l n c i) (hOW l n c) = some (.norm, vOW l n c ((i + 1 : Nat) : Int), hOW l n c) := by
  rw [nfOW01]
  have e0 : 0 + (i : Int).toNat * 1 = i := by omega
  have e1 : IntKind.i64.wrap (2 * (i : Int)) = 2 * i := wrapI64 (by omega)
  have e2 : 0 + (2 * (i : Int)).toNat * 1 = 2 * i := by omega
  have e3 : IntKind.i64.wrap (2 * (i : Int) + 1) = 2 * i + 1 := wrapI64 (by omega)
  have e4 : 0 + (2 * (i : Int) + 1).toNat * 1 = 2 * i + 1 := by omega
  have e5 : IntKind.i64.wrap ((i : Int) + 1) = ((i + 1 : Nat) : Int) := by rw [wrapI64 (by omega)]; omega
  have w0 := wordV0 h2
  simp only [e0, e1, e2, e3, e4, e5, w0, atA_get hi, wdA_get hi, atA_get hc, wdA_get hc, isI, intI]
  refine (if_pos (by simp; omega)).trans ?_
  refine (if_pos (by omega)).trans ?_
  refine (if_pos (isB (by omega))).trans ?_
  refine (if_pos (by simp; omega)).trans ?_
  refine (if_pos (by omega)).trans ?_
  refine (if_pos (isB (by omega))).trans ?_
  repeat (first | (refine (if_pos ?_).trans ?_; · first | rfl | omega | (simp; done) | (simp; omega)) | (refine (if_neg ?_).trans ?_; · first | (simp; done) | (simp; omega)))
  rfl

theorem stepOW10 {l : List UInt8} {n c i : Nat} (hl : l.length ≤ 300) (hi : i < n) (h2 : 2 * i + 1 = l.length) (hc : ¬ i < c) :
    qround Try.prog [] 100 4 [(65, .bool true), (80, .bool false), (109, .bool false), (132, .bool false)] noT OW mOW (vOW l n c i) (hOW l n c) = some (.norm, vOW l n c ((i + 1 : Nat) : Int), hOW l n c) := by
  rw [nfOW10]
  have e0 : 0 + (i : Int).toNat * 1 = i := by omega
  have e1 : IntKind.i64.wrap (2 * (i : Int)) = 2 * i := wrapI64 (by omega)
  have e2 : 0 + (2 * (i : Int)).toNat * 1 = 2 * i := by omega
  have e3 : IntKind.i64.wrap (2 * (i : Int) + 1) = 2 * i + 1 := wrapI64 (by omega)
  have e4 : 0 + (2 * (i : Int) + 1).toNat * 1 = 2 * i + 1 := by omega
  have e5 : IntKind.i64.wrap ((i : Int) + 1) = ((i + 1 : Nat) : Int) := by rw [wrapI64 (by omega)]; omega
  have w0 := wordV1 h2
  simp only [e0, e1, e2, e3, e4, e5, w0, atA_get hi, wdA_get hi, isI, intI]
  refine (if_pos (by simp; omega)).trans ?_
  refine (if_pos (by omega)).trans ?_
  refine (if_pos (isB (by omega))).trans ?_
  refine (if_pos (by simp; omega)).trans ?_
  repeat (first | (refine (if_pos ?_).trans ?_; · first | rfl | omega | (simp; done) | (simp; omega)) | (refine (if_neg ?_).trans ?_; · first | (simp; done) | (simp; omega)))
  rfl

theorem stepOW11 {l : List UInt8} {n c i : Nat} (hl : l.length ≤ 300) (hi : i < n) (h2 : 2 * i + 1 = l.length) (hc : i < c) :
    qround Try.prog [] 100 4 [(65, .bool true), (80, .bool false), (109, .bool true), (132, .bool false)] noT OW mOW (vOW l n c i) (hOW l n c) = some (.norm, vOW l n c ((i + 1 : Nat) : Int), hOW l n c) := by
  rw [nfOW11]
  have e0 : 0 + (i : Int).toNat * 1 = i := by omega
  have e1 : IntKind.i64.wrap (2 * (i : Int)) = 2 * i := wrapI64 (by omega)
  have e2 : 0 + (2 * (i : Int)).toNat * 1 = 2 * i := by omega
  have e3 : IntKind.i64.wrap (2 * (i : Int) + 1) = 2 * i + 1 := wrapI64 (by omega)
  have e4 : 0 + (2 * (i : Int) + 1).toNat * 1 = 2 * i + 1 := by omega
  have e5 : IntKind.i64.wrap ((i : Int) + 1) = ((i + 1 : Nat) : Int) := by rw [wrapI64 (by omega)]; omega
  have w0 := wordV1 h2
  simp only [e0, e1, e2, e3, e4, e5, w0, atA_get hi, wdA_get hi, atA_get hc, wdA_get hc, isI, intI]
  refine (if_pos (by simp; omega)).trans ?_
  refine (if_pos (by omega)).trans ?_
  refine (if_pos (isB (by omega))).trans ?_
  refine (if_pos (by simp; omega)).trans ?_
  repeat (first | (refine (if_pos ?_).trans ?_; · first | rfl | omega | (simp; done) | (simp; omega)) | (refine (if_neg ?_).trans ?_; · first | (simp; done) | (simp; omega)))
  rfl


theorem runOctetWords (l : List UInt8) (m : Int) (_ : l.length ≤ maxLen) (hm : -9223372036854775808 ≤ m ∧ m < 9223372036854775808) : ∃ h', Runs Try.prog 5 [slB 0 l, .int .i64 m] [farB l] (.bool true) h' := by
  by_cases h : 300 < l.length
  · exact Runs.valT0 (tOWOk l 0 0) (F := 100) (n := 4) (pr := [(14, .bool true)]) ((nfOWl l m _).trans (if_pos (by simp; omega)))
  obtain ⟨n, hn⟩ : ∃ n, n = (l.length + 1) / 2 := ⟨_, rfl⟩
  obtain ⟨c, hc⟩ : ∃ c, c = cntW l (m % ((l.length : Int) + 1)) := ⟨_, rfl⟩
  have hk := Int.emod_nonneg m (show ((l.length : Int) + 1) ≠ 0 by omega)
  have hk2 := Int.emod_lt_of_pos m (show 0 < ((l.length : Int) + 1) by omega)
  have hcn : (c : Int) = if (n : Int) < m % ((l.length : Int) + 1) then (n : Int) else m % ((l.length : Int) + 1) := by
    rw [hc]; unfold cntW; rw [if_neg (by omega), ← hn]; split <;> omega
  have key : True → ∃ k, GReach (roundG Try.prog (deepT Try.prog [] 100 4) (lsT noT) OW mOW) 5 k (vOW l n c 0) (hOW l n c) (.exit 0) (vOW l n c n) (hOW l n c) := by
    intro _
    refine loop_T (fun i => (vOW l n c i, hOW l n c)) (N := n) (by simp) (fun i hi => ?_) ⟨_, _, _, (nfOWs l n c n).trans (if_pos (by simp)), Gc.refl⟩
    rcases (by omega : 2 * i + 1 < l.length ∨ 2 * i + 1 = l.length) with h2 | h2
    · by_cases g : i < c
      · exact ⟨_, _, _, stepOW01 (by omega) hi h2 g, Gc.refl⟩
      · exact ⟨_, _, _, stepOW00 (by omega) hi h2 g, Gc.refl⟩
    · by_cases g : i < c
      · exact ⟨_, _, _, stepOW11 (by omega) hi h2 g, Gc.refl⟩
      · exact ⟨_, _, _, stepOW10 (by omega) hi h2 g, Gc.refl⟩
  have lp : loopsOf (bodyOf Try.prog 5) = [OW] := by kernel_rfl
  refine Runs.valT (tOWOk l n c) (F := 100) (n := 4) (pr := [(61, .bool false)]) (only (k := 9) lp (fixC_T (find_nil _) (F := 100) (n := 4) (LS := noT) (noLoops (by kernel_rfl)) key)) ?_
  rw [nfOW]
  have g := fun (h : AHeap) (hh : h[0]? = some (farB l)) => bOk_far (h := h) (k := 0) (l := l) hh
  have e1 : IntKind.i64.wrap ((l.length : Int) + 1) = (l.length : Int) + 1 := wrapI64 (by omega)
  have e2 : ((l.length : Int) + 1).tdiv 2 = n := by rw [hn]; rfl
  have e3 : IntKind.i64.wrap (n : Int) = n := wrapI64 (by omega)
  rw [e1, e2, e3]
  refine (if_neg (by simp; omega)).trans ?_
  refine (if_pos (cdec_true.2 (TwoR.mk l (-1) _ _ _ (g _ rfl) (by omega) (by omega) n (by unfold cntW; rw [if_pos (by omega), hn]) rfl))).trans ?_
  refine (if_pos (by simp; omega)).trans ?_
  refine (if_pos (cdec_true.2 (TwoR.mk l _ _ _ _ (g _ rfl) (by omega) (by omega) c hc.symm rfl))).trans ?_
  refine (if_neg (by simp)).trans ?_
  refine (if_neg (by simp)).trans ?_
  refine (if_neg (by rw [if_neg (by simp), ← hcn]; simp)).trans ?_
  refine (if_pos (by simp)).trans ?_
  exact if_pos (cdec_true.2 ⟨trivial, rfl, rfl⟩)

end Go.Proofs.Ytejbipoibpefnaa.L
