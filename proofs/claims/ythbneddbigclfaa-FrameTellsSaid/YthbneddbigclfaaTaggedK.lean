/- frame's tagged. -/
import Derived.Test.YthbneddbigclfaaTagged
set_option autoImplicit false
set_option maxRecDepth 100000
namespace Go.Proofs.Ythbneddbigclfaa.L
open Go Go.Abs
theorem walkTagged (l : List UInt8) (hl : 14 ≤ l.length) : ∃ h1, Runs Try.prog 60 [slB 0 l] [farB l] (.bool (decide (word l 12 = 33024))) h1 := by
  have r1 := byt_range l 12
  have r2 := byt_range l 13
  by_cases h : byt l 12 = 129
  · have e : decide (word l 12 = 33024) = (byt l 13 == 0) := by
      show decide (byt l 12 * 256 + byt l 13 = 33024) = _; rw [h]
      by_cases h2 : byt l 13 = 0
      · rw [h2]; rfl
      · rw [decide_eq_false (by omega)]; simp [h2]
    rw [e]
    refine Runs.valT0 (find_nil _) (F := 100) (n := 4) (pr := [(6, .bool true), (10, .bool true)]) ?_
    refine (nfTaggedT l true _).trans ?_
    refine (if_pos ⟨by decide, by omega⟩).trans ?_
    refine (if_pos (by simp; omega)).trans ?_
    refine (if_pos (by simp [h])).trans ?_
    refine (if_pos ⟨by decide, by omega⟩).trans ?_
    refine (if_pos (by simp; omega)).trans ?_
    rw [show intV (bys l)[13]? = byt l 13 by simp]
  · have e : decide (word l 12 = 33024) = false := by
      exact decide_eq_false (show ¬ (byt l 12 * 256 + byt l 13 = 33024) by omega)
    rw [e]
    refine Runs.valT0 (find_nil _) (F := 100) (n := 4) (pr := [(6, .bool false)]) ?_
    refine (nfTaggedF l _).trans ?_
    refine (if_pos ⟨by decide, by omega⟩).trans ?_
    refine (if_pos (by simp; omega)).trans ?_
    refine (if_pos (by simp [h])).trans ?_
    rfl
theorem sTagged : SoundE Try.prog 60 (entF eTagged) := by
  refine canonV_sound fun args h v h' hg => ?_
  unfold eTagged at hg
  split at hg
  · rename_i b
    simp only [Option.some.injEq, Prod.mk.injEq, Bool.and_eq_true, decide_eq_true_eq] at hg
    obtain ⟨⟨hb, hn⟩, rfl, rfl⟩ := hg
    rw [← bOk_len hb] at hn
    exact ⟨rfl, rfl, [slB 0 (bOf h b)], [farB (bOf h b)], .cons _ _ _ _ _ _ _ (bOk_canon hb 0) (.nil _), walkTagged _ hn⟩
  · simp at hg
theorem sayTag {h : AHeap} {a : AV} {l : List UInt8} {b : Bool} (g : bOk h a = true ∧ bOf h a = l) (hn : 14 ≤ nOf a) (hr : decide (word l 12 = 33024) = b) : Says eTagged [a] h (.bool b) [] := ⟨by
  show some (bOk h a && decide (14 ≤ nOf a), AV.bool (decide (word (bOf h a) 12 = 33024)), h) = _
  rw [g.1, g.2, hr, decide_eq_true hn, List.append_nil]; rfl⟩
end Go.Proofs.Ythbneddbigclfaa.L
