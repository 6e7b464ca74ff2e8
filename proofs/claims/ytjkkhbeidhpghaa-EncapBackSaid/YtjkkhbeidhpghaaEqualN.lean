/- bytes.Equal: what the kernel makes of it. -/
import Derived.Test.YtjkkhbeidhpghaaSayRd
import Derived.Test.YtjkkhbeidhpghaaBase
set_option autoImplicit false
set_option maxRecDepth 100000
set_option linter.unusedVariables false
namespace Go.Proofs.Ytjkkhbeidhpghaa.L
open Go Go.Abs
open Go.IntKind
open Go.Abs.AV (int)
open Go.Abs.ABlk (cells)
theorem nfEqual {R : Type} (l m : List UInt8) (K : AV → Option R) :
 qrun Try.prog [] 100 4 [] [] 46 [slB 0 l, slB 1 m] [farB l, farB m] (fun v _ => K v) =
 (if 0 + l.length ≤ (bys l).length then
 (if (List.take l.length (bys l)).all isByte = true then
 (if 0 + m.length ≤ (bys m).length then
 (if (List.take m.length (bys m)).all isByte = true then
 K (AV.bool (decide (List.map byteD (List.take l.length (bys l)) = List.map byteD (List.take m.length (bys m)))))
 else none) else none) else none) else none) := by
  kernel_rfl

end Go.Proofs.Ytjkkhbeidhpghaa.L
