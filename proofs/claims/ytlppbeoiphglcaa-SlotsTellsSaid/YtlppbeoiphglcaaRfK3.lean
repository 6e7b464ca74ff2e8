/- The reference's Fill: rounds of its second walk. -/
import Derived.Test.YtlppbeoiphglcaaRfK2
set_option autoImplicit false
set_option maxRecDepth 100000
set_option linter.unusedVariables false
set_option linter.unusedSimpArgs false
namespace Go.Proofs.Ytlppbeoiphglcaa.L
open Go Go.Abs

variable {P : PL} {D : List DipC} {S : List Int} {n : Nat}
theorem nz_zero {l : List Int} {a : Nat} (hn : ∀ x ∈ l, 0 ≤ x) (hz : ∀ i (h : i < l.length), i < a → l[i] = 0) (hs : 0 < sumL l) : nzN l 0 = nzN l a := by
  obtain ⟨h1, h2, h3, h4⟩ := nz_spec hn hz hs
  obtain ⟨g1, g2, g3, g4⟩ := nz_spec (a := 0) hn (by intro i h hi; omega) hs
  rcases Nat.lt_trichotomy (nzN l 0) (nzN l a) with h | h | h
  · exact absurd (h4 _ g1 h) g3
  · exact h
  · exact absurd (g4 _ h1 h) h3
theorem keptB_eq {O C L X : List AV} {k l i : Nat} {f : Nat → Bool} (hi : i < n) : keptB [AV.sl (some (1, 0)) k 0 false, AV.int .i64 (n : Int), AV.sl (some (2, 0)) l 0 false, AV.sl (some (3, 0)) n 0 false, AV.sl (some (4, 0)) n 0 false, AV.int .i64 (i : Int), AV.int .i64 0] (hRf O C L X (kpL n f)) = f i := by
  have e : rowOf (hRf O C L X (kpL n f)) (AV.sl (some (4, 0)) n 0 false) = kpL n f := by
    show ((kpL n f).drop 0).take (n * 1) = _
    rw [List.drop_zero, List.take_of_length_le (by simp)]
  unfold keptB
  simp only [e, opq_eq]
  have := kpL_at (n := n) (f := f) hi
  rw [show 0 + (i : Int).toNat * 1 = (i : Int).toNat by omega] at this
  rw [this]; rfl

noncomputable def jQ (P : PL) (D : List DipC) (S : List Int) (n i : Nat) : Nat := (fl1 P D S n i).2.2.length
noncomputable def stRf2 (P : PL) (D : List DipC) (S : List Int) (n i : Nat) : List AV × AHeap := (vRf2 P.length n P.length i, hRf (dipsC D) (itP P) (intL (fl2 P D S n (jQ P D S n i)).1) (dipsC (fl2 P D S n (jQ P D S n i)).2.1) (kpL n fun x => !decide (x ∈ (fl1 P D S n n).2.2.drop (jQ P D S n i))))
theorem stepRf2k {i : Nat} (hi : i < n) (hk : i ∉ (fl1 P D S n n).2.2) (h64 : n ≤ 64) : qround Try.prog tRfL 100 4 [(86, .bool true)] lsRf RF2 mRf2 (stRf2 P D S n i).1 (stRf2 P D S n i).2 = some (.norm, (stRf2 P D S n (i + 1)).1, (stRf2 P D S n (i + 1)).2) := by
  have ej : jQ P D S n (i + 1) = jQ P D S n i := by unfold jQ; rw [fl1_kept hi hk]
  unfold stRf2
  rw [ej]
  generalize fl2 P D S n (jQ P D S n i) = s
  have hf : (fun x => !decide (x ∈ (fl1 P D S n n).2.2.drop (jQ P D S n i))) i = true := by
    simp only [Bool.not_eq_true', decide_eq_false_iff_not]
    exact fun h => hk (List.mem_of_mem_drop h)
  generalize (fun x => !decide (x ∈ (fl1 P D S n n).2.2.drop (jQ P D S n i))) = f at *
  refine (nfRf2a ..).trans ?_
  refine (if_pos (by simp; omega)).trans ?_
  refine (if_pos (by rw [show hRf2a0 (dipsC D) (itP P) (intL s.1) (dipsC s.2.1) (kpL n f) P.length n P.length i = hRf (dipsC D) (itP P) (intL s.1) (dipsC s.2.1) (kpL n f) from rfl, keptB_eq hi]; exact hf)).trans ?_
  refine (if_pos (cdec_true.2 (saysRfK hi hf))).trans ?_
  rw [wrap1 (by omega)]
  rfl

end Go.Proofs.Ytlppbeoiphglcaa.L
