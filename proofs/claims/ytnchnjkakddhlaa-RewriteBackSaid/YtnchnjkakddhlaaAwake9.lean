/- What the document fixes, run. -/
import Derived.Test.YtnchnjkakddhlaaProg
import Derived.Test.YtnchnjkakddhlaaBase
set_option autoImplicit false
set_option maxRecDepth 100000
namespace Go.Proofs.Ytnchnjkakddhlaa.L
open Go Go.Abs
open Go.IntKind (u8 u16 u32 u64 i64)
open Go.Abs.AV (int)
open Go.Abs.ABlk (cells)

theorem zwO : zbs Try.prog [] 100 12 [] [] 7 [] [] (fun v _ => some v) = some (.bool true) := by kernel_rfl

def zre : zdD := fun args h => match args with
 | [] => some (true, .bool true, h)
 | _ => none

theorem zzI : SoundE Try.prog 7 (zbj zre) := by
 refine zax fun args h v h' hg => ?_
 unfold zre at hg
 split at hg
 · simp only [Option.some.injEq, Prod.mk.injEq, true_and] at hg
   obtain ⟨rfl, rfl⟩ := hg
   exact ⟨rfl, rfl, [], [], .nil _, Runs.valT0 (zar _) zwO⟩
 · simp at hg

end Go.Proofs.Ytnchnjkakddhlaa.L
