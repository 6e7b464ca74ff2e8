/- bytes.Equal. -/
import Derived.Test.YtjkkhbeidhpghaaEqualN
set_option autoImplicit false
set_option maxRecDepth 100000
set_option linter.unusedVariables false
namespace Go.Proofs.Ytjkkhbeidhpghaa.L
open Go Go.Abs
def eEqual : GEnt := fun args h => match args with
  | [a, b] => some (bOk h a && bOk h b, .bool (decide (bOf h a = bOf h b)), h)
  | _ => none
theorem bysAll (l : List UInt8) : (bys l).all isByte = true := by simp [bys, isByte]
theorem bysMap (l : List UInt8) : List.map byteD (bys l) = l := by simp
theorem walkEqual (l m : List UInt8) : ∃ h1, Runs Try.prog 46 [slB 0 l, slB 1 m] [farB l, farB m] (.bool (decide (l = m))) h1 := by
  refine Runs.valT0 (find_nil _) (F := 100) (n := 4) (pr := []) ?_
  refine (nfEqual l m _).trans ?_
  have e : ∀ l : List UInt8, List.take l.length (bys l) = bys l := fun l => List.take_of_length_le (by simp)
  rw [e, e, bysMap, bysMap, bysAll, bysAll]
  refine (if_pos (by simp)).trans ?_
  refine (if_pos rfl).trans ?_
  refine (if_pos (by simp)).trans ?_
  refine (if_pos rfl).trans ?_
  rfl
theorem sEqual : SoundE Try.prog 46 (entF eEqual) := by
  refine canonV_sound fun args h v h' hg => ?_
  unfold eEqual at hg
  split at hg
  · rename_i a b
    simp only [Option.some.injEq, Prod.mk.injEq, Bool.and_eq_true] at hg
    obtain ⟨⟨ha, hb⟩, rfl, rfl⟩ := hg
    exact ⟨rfl, rfl, [slB 0 (bOf h a), slB 1 (bOf h b)], [farB (bOf h a), farB (bOf h b)], .cons _ _ _ _ _ _ _ (bOk_canon ha 0) (.cons _ _ _ _ _ _ _ (bOk_canon hb 1) (.nil _)), walkEqual _ _⟩
  · simp at hg
theorem sayEq {h : AHeap} {a b : AV} {l m : List UInt8} {r : Bool} (g : bOk h a = true ∧ bOf h a = l) (g2 : bOk h b = true ∧ bOf h b = m) (hr : decide (l = m) = r) : Says eEqual [a, b] h (.bool r) [] := ⟨by
  show some (bOk h a && bOk h b, AV.bool (decide (bOf h a = bOf h b)), h) = _
  rw [g.1, g.2, g2.1, g2.2, hr, List.append_nil]; rfl⟩
theorem sayFrom {h : AHeap} {a : AV} {l : List UInt8} {cs : List AV} (g : bOk h a = true ∧ bOf h a = l) (hn : nOf a = 16 ∧ adr16 l 0 = cs ∨ nOf a = 4 ∧ adr4 l 0 = cs) : Says (eFrom 0 2) [a] h (.tup [.agg cs, .int .i64 0]) [] := ⟨by
  rcases hn with ⟨hn, hc⟩ | ⟨hn, hc⟩
  · show (match nOf a with
      | 16 => some (bOk h a, AV.tup [.agg (adr16 (bOf h a) 0), .int .i64 0], h)
      | 4 => some (bOk h a, AV.tup [.agg (adr4 (bOf h a) 0), .int .i64 0], h)
      | _ => none) = _
    rw [hn, g.1, g.2, hc, List.append_nil]; rfl
  · show (match nOf a with
      | 16 => some (bOk h a, AV.tup [.agg (adr16 (bOf h a) 0), .int .i64 0], h)
      | 4 => some (bOk h a, AV.tup [.agg (adr4 (bOf h a) 0), .int .i64 0], h)
      | _ => none) = _
    rw [hn, g.1, g.2, hc, List.append_nil]; rfl⟩
end Go.Proofs.Ytjkkhbeidhpghaa.L
