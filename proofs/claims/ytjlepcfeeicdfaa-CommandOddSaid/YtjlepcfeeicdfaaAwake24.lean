/- What the document fixes, run. -/
import Derived.Test.YtjlepcfeeicdfaaProg
import Derived.Test.YtjlepcfeeicdfaaBase
set_option autoImplicit false
set_option maxRecDepth 100000
namespace Go.Proofs.Ytjlepcfeeicdfaa.L
open Go Go.Abs
open Go.IntKind (u8 u16 u32 u64 i64)
open Go.Abs.AV (int)
open Go.Abs.ABlk (cells)

theorem nfAwake : qrun Try.prog [] 100 12 [] [] 7 [] [] (fun v _ => some v) = some (.bool true) := by kernel_rfl

def eAwake : GEnt := fun args h => match args with
  | [] => some (true, .bool true, h)
  | _ => none

theorem sAwake : SoundE Try.prog 7 (entF eAwake) := by
  refine canonV_sound fun args h v h' hg => ?_
  unfold eAwake at hg
  split at hg
  · simp only [Option.some.injEq, Prod.mk.injEq, true_and] at hg
    obtain ⟨rfl, rfl⟩ := hg
    exact ⟨rfl, rfl, [], [], .nil _, Runs.valT0 (find_nil _) nfAwake⟩
  · simp at hg

end Go.Proofs.Ytjlepcfeeicdfaa.L
