/- HealthOrder: the loop within. -/
import Derived.Test.YtpghomcohejejaaHealthOrderN
set_option autoImplicit false
set_option maxRecDepth 100000
set_option linter.unusedVariables false
set_option linter.unusedSimpArgs false
namespace Go.Proofs.Ytpghomcohejejaa.L
open Go Go.Abs

abbrev intL (l : List Int) : List AV := l.map (AV.int .i64)
def rstI (l : List Int) (k : Int) : List Int := l.filter fun a => decide (a ≠ k)
def hadI (l : List Int) (k : Int) : Bool := decide (k ∈ l)
theorem beq_i (a k : Int) : AV.beq (.int .i64 a) (.int .i64 k) = decide (a = k) := by simp [AV.beq]
theorem rstF_eq (l : List Int) (k : Int) : rstF (intL l) k = intL (rstI l k) := by
  unfold rstF rstI
  rw [List.filter_map]
  congr 1
  apply List.filter_congr
  intro a _
  simp [beq_i]
theorem hadF_eq (l : List Int) (k : Int) : hadF (intL l) k = hadI l k := by
  unfold hadF hadI
  rw [Bool.eq_iff_iff, List.any_map, List.any_eq_true]
  simp only [Function.comp, beq_i, decide_eq_true_eq]
  constructor
  · rintro ⟨x, h1, rfl⟩; exact h1
  · exact fun h => ⟨_, h, rfl⟩
theorem rstI_snoc (l : List Int) (a k : Int) : rstI (l ++ [a]) k = if a = k then rstI l k else rstI l k ++ [a] := by
  unfold rstI; rw [List.filter_append]; by_cases h : a = k <;> simp [h]
theorem hadI_snoc (l : List Int) (a k : Int) : hadI (l ++ [a]) k = (decide (a = k) || hadI l k) := by
  unfold hadI
  rw [Bool.eq_iff_iff, Bool.or_eq_true, decide_eq_true_eq, decide_eq_true_eq, decide_eq_true_eq, List.mem_append, List.mem_singleton]
  exact ⟨fun h => h.elim .inr (fun h => .inl h.symm), fun h => h.elim (fun h => .inr h.symm) .inl⟩

variable {B0 B1 B2 B3 B4 B6 : ABlk}
noncomputable def hoSt (B0 B1 B2 B3 B4 B6 : ABlk) (l : List Int) (mo : Int) (n m : Nat) (i x : Int) (j : Nat) : List AV × AHeap := (vHO2 mo n m l.length (rstI (l.take j) x).length i x j (hadI (l.take j) x), hHO2 B0 B1 B2 B3 B4 B6 (intL l) (intL (rstI (l.take j) x)))
theorem keepN {k : Nat} (i : Nat) (hi : i < 7) : posOf [0, 1, 2, 3, 4, 5, 6, k] i = some i := by
  rcases (by omega : i = 0 ∨ i = 1 ∨ i = 2 ∨ i = 3 ∨ i = 4 ∨ i = 5 ∨ i = 6) with rfl | rfl | rfl | rfl | rfl | rfl | rfl <;> rfl
theorem stepHO2 (h0 : B0.okU 7) (h1 : B1.okU 7) (h2 : B2.okU 7) (h3 : B3.okU 7) (h4 : B4.okU 7) (h6 : B6.okU 7) {l : List Int} {n m : Nat} {mo i x : Int} {j : Nat} (hl : l.length ≤ 1000) (hj : j < l.length) :
    ∃ pr vs1 hh, qround Try.prog tHO 100 4 pr noT HO2 mHO2 (hoSt B0 B1 B2 B3 B4 B6 l mo n m i x j).1 (hoSt B0 B1 B2 B3 B4 B6 l mo n m i x j).2 = some (.norm, vs1, hh) ∧ Gc 7 vs1 hh (hoSt B0 B1 B2 B3 B4 B6 l mo n m i x (j + 1)).1 (hoSt B0 B1 B2 B3 B4 B6 l mo n m i x (j + 1)).2 := by
  have e0 : 0 + (j : Int).toNat * 1 = j := by omega
  have e5 := wrap1 (i := j) (by omega)
  have eL : (intL l)[j]? = some (.int .i64 (l.getD j 0)) := get_ints hj
  have et : l.take (j + 1) = l.take j ++ [l.getD j 0] := by
    rw [List.take_succ_eq_append_getElem hj]; congr 2; simp [List.getD, List.getElem?_eq_getElem hj]
  have hr : (rstI (l.take j) x).length ≤ j := by
    have := List.length_filter_le (fun a => decide (a ≠ x)) (l.take j)
    rw [List.length_take] at this
    unfold rstI; omega
  unfold hoSt
  rw [et, rstI_snoc, hadI_snoc]
  generalize l.getD j 0 = a at *
  by_cases ha : a = x
  · rw [if_pos ha, decide_eq_true ha, Bool.true_or]
    refine ⟨_, _, _, (nfHO2a ..).trans ?_, .inl ⟨rfl, rfl⟩⟩
    simp only [e0, eL, show ∀ x, intV (some (AV.int IntKind.i64 x)) = x from fun _ => rfl, e5]
    refine (if_pos (by simp; omega)).trans ?_
    refine (if_pos (by omega)).trans ?_
    refine (if_pos rfl).trans ?_
    exact (if_pos (by simp [ha])).trans rfl
  · rw [if_neg ha, decide_eq_false ha, Bool.false_or]
    have row : qround Try.prog tHO 100 4 [(74, .bool true), (82, .bool false)] noT HO2 mHO2 (vHO2 mo n m l.length (rstI (l.take j) x).length i x j (hadI (l.take j) x)) (hHO2 B0 B1 B2 B3 B4 B6 (intL l) (intL (rstI (l.take j) x))) =
        some (.norm, [AV.sl (some (0, 0)) n 0 false, AV.sl (some (1, 0)) m 0 false, AV.int IntKind.i64 mo, AV.ptr (some (3, 0)), AV.sl (some (5, 0)) l.length 0 false, AV.int IntKind.i64 i, AV.int IntKind.i64 x, AV.sl (some (9, 0)) ((rstI (l.take j) x).length + 1) 0 false, AV.bool (hadI (l.take j) x), AV.int IntKind.i64 ((j + 1 : Nat) : Int)], hHO2b0 mo B0 B1 B2 B3 B4 B6 (intL l) (intL (rstI (l.take j) x)) n m l.length (rstI (l.take j) x).length i x j (hadI (l.take j) x)) := by
      refine (nfHO2b ..).trans ?_
      simp only [e0, eL, show ∀ x, intV (some (AV.int IntKind.i64 x)) = x from fun _ => rfl, e5]
      refine (if_pos (by simp; omega)).trans ?_
      refine (if_pos (by omega)).trans ?_
      refine (if_pos rfl).trans ?_
      refine (if_pos (by simp [ha])).trans ?_
      refine (if_pos (by omega)).trans ?_
      refine (if_pos rfl).trans ?_
      refine (if_pos ⟨by omega, by trivial, by omega⟩).trans ?_
      refine (if_pos (by simp)).trans ?_
      exact if_pos ⟨trivial, by simp, .inl (by decide), trivial, rfl⟩
    refine ⟨_, _, _, row, ?_⟩
    unfold hHO2b0
    simp only [e0, eL, show ∀ x, intV (some (AV.int IntKind.i64 x)) = x from fun _ => rfl]
    have hc : List.take ((rstI (l.take j) x).length * 1) (intL (rstI (l.take j) x)) ++ [AV.int .i64 a] = intL (rstI (l.take j) x ++ [a]) := by
      rw [Nat.mul_one, List.take_of_length_le (by simp)]; simp
    rw [hc, show (rstI (l.take j) x).length + 1 = (rstI (l.take j) x ++ [a]).length by simp]
    exact Gc.by [0, 1, 2, 3, 4, 5, 6, 9] rfl (by decide) (.cons _ _ _ _ (.sl _ _ _ _ _ _ rfl) (.cons _ _ _ _ (.sl _ _ _ _ _ _ rfl) (.cons _ _ _ _ (.free _ rfl) (.cons _ _ _ _ (.ptr _ _ _ rfl) (.cons _ _ _ _ (.sl _ _ _ _ _ _ rfl) (.cons _ _ _ _ (.free _ rfl) (.cons _ _ _ _ (.free _ rfl) (.cons _ _ _ _ (.sl _ _ _ _ _ _ rfl) (.free _ rfl)))))))))
      (.cons _ _ _ _ _ rfl (BR.ofU keepN h0) (.cons _ _ _ _ _ rfl (BR.ofU keepN h1) (.cons _ _ _ _ _ rfl (BR.ofU keepN h2) (.cons _ _ _ _ _ rfl (BR.ofU keepN h3) (.cons _ _ _ _ _ rfl (BR.ofU keepN h4) (.cons _ _ _ _ _ rfl (.row (frees_ints _) (by simp)) (.cons _ _ _ _ _ rfl (BR.ofU keepN h6) (.cons _ _ _ _ _ rfl (BR.grown (frees_ints _) rfl) .nil))))))))
theorem saysHO2 (h0 : B0.okU 7) (h1 : B1.okU 7) (h2 : B2.okU 7) (h3 : B3.okU 7) (h4 : B4.okU 7) (h6 : B6.okU 7) {l : List Int} {n m : Nat} {mo i x : Int} (hl : l.length ≤ 1000) :
    LSays bHO2 7 [AV.sl (some (0, 0)) n 0 false, AV.sl (some (1, 0)) m 0 false, AV.int IntKind.i64 mo, AV.ptr (some (3, 0)), AV.sl (some (5, 0)) l.length 0 false, AV.int IntKind.i64 i, AV.int IntKind.i64 x, AV.sl none 0 0 true, AV.bool false, AV.int IntKind.i64 0] [B0, B1, B2, B3, B4, .cells (intL l) 1 .own none, B6] (.exit 2)
      (vHO2 mo n m l.length (rstI l x).length i x l.length (hadI l x)) (hHO2 B0 B1 B2 B3 B4 B6 (intL l) (intL (rstI l x))) := by
  have h := loop_T (P := Try.prog) (t := tHO) (F := 100) (n := 4) (LS := noT) (c := HO2) (m := mHO2) (n0 := 7) (hoSt B0 B1 B2 B3 B4 B6 l mo n m i x) (N := l.length) (e := .exit 2) (by simp) (fun j hj => stepHO2 h0 h1 h2 h3 h4 h6 hl hj) ⟨[(74, .bool false)], _, _, (nfHO2s ..).trans (if_pos (by simp)), Gc.refl⟩
  rw [show hHO2s0 mo B0 B1 B2 B3 B4 B6 (intL l) (intL (rstI (l.take l.length) x)) n m l.length (rstI (l.take l.length) x).length i x l.length (hadI (l.take l.length) x) = hHO2 B0 B1 B2 B3 B4 B6 (intL l) (intL (rstI (l.take l.length) x)) from rfl, List.take_length] at h
  exact .pre _ _ (Pre.nil1 1 (.same _ _ _ (.same _ _ _ (.same _ _ _ (.same _ _ _ (.same _ _ _ (.same _ _ _ (.same _ _ _ (.void _ _ _ (NRs.refl _))))))))) rfl) h

end Go.Proofs.Ytpghomcohejejaa.L
