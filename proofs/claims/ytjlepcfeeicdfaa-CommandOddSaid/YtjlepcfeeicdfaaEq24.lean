/- bytes.Equal, for orders. -/
import Derived.Test.YtjlepcfeeicdfaaCKit
set_option autoImplicit false
set_option maxRecDepth 100000
set_option linter.unusedVariables false
namespace Go.Proofs.Ytjlepcfeeicdfaa.L
open Go Go.Abs
open Go.IntKind (u8 u16 u32 u64 i64)
open Go.Abs.AV (int)
open Go.Abs.ABlk (cells)
theorem nfEqual {R : Type} (l m : List UInt8) (K : AV → Option R) :
 qrun Try.prog [] 100 4 [] [] 23 [slB 0 l, slB 1 m] [farB l, farB m] (fun v _ => K v) =
 (if 0 + l.length ≤ (bys l).length then
 (if (List.take l.length (bys l)).all isByte = true then
 (if 0 + m.length ≤ (bys m).length then
 (if (List.take m.length (bys m)).all isByte = true then
 K (AV.bool (decide (List.map byteD (List.take l.length (bys l)) = List.map byteD (List.take m.length (bys m)))))
 else none) else none) else none) else none) := by
  kernel_rfl

def eEqual : GEnt := fun args h => match args with
  | [a, b] => some (bOk h a && bOk h b, .bool (decide (bOf h a = bOf h b)), h)
  | _ => none
theorem bysAll (l : List UInt8) : (bys l).all isByte = true := by simp [bys, isByte]
theorem bysMap (l : List UInt8) : List.map byteD (bys l) = l := by simp
theorem walkEqual (l m : List UInt8) : ∃ h1, Runs Try.prog 23 [slB 0 l, slB 1 m] [farB l, farB m] (.bool (decide (l = m))) h1 := by
  refine Runs.valT0 (find_nil _) (F := 100) (n := 4) (pr := []) ?_
  refine (nfEqual l m _).trans ?_
  have e : ∀ l : List UInt8, List.take l.length (bys l) = bys l := fun l => List.take_of_length_le (by simp)
  rw [e, e, bysMap, bysMap, bysAll, bysAll]
  refine (if_pos (by simp)).trans ?_
  refine (if_pos rfl).trans ?_
  refine (if_pos (by simp)).trans ?_
  refine (if_pos rfl).trans ?_
  rfl
theorem sEqual : SoundE Try.prog 23 (entF eEqual) := by
  refine canonV_sound fun args h v h' hg => ?_
  unfold eEqual at hg
  split at hg
  · rename_i a b
    simp only [Option.some.injEq, Prod.mk.injEq, Bool.and_eq_true] at hg
    obtain ⟨⟨ha, hb⟩, rfl, rfl⟩ := hg
    exact ⟨rfl, rfl, [slB 0 (bOf h a), slB 1 (bOf h b)], [farB (bOf h a), farB (bOf h b)], .cons _ _ _ _ _ _ _ (bOk_canon ha 0) (.cons _ _ _ _ _ _ _ (bOk_canon hb 1) (.nil _)), walkEqual _ _⟩
  · simp at hg
end Go.Proofs.Ytjlepcfeeicdfaa.L
