/- ContainsFunc: its row. -/
import Derived.Test.YtjlepcfeeicdfaaMxK
set_option autoImplicit false
set_option maxRecDepth 100000
set_option linter.unusedVariables false
set_option linter.unusedSimpArgs false
namespace Go.Proofs.Ytjlepcfeeicdfaa.L
open Go Go.Abs
open Go.IntKind (u8 u16 u32 u64 i64)
open Go.Abs.AV (int)
open Go.Abs.ABlk (cells)

noncomputable def tCf (r : Int) : Tbl := [(44, entF (eRel IxR [(3, .int .i64 r, [])]))]
theorem tCfOk (r : Int) : ∀ f E, (tCf r).find f = some E → SoundE Try.prog f E := find_cons (sIx _) (find_nil _)
noncomputable def hCf0 (C X : List AV) (B2 : ABlk) (n : Nat) (k r : Int) : AHeap := [ABlk.cells C 19 Md.far none, cells (int i64 k :: X) 21 Md.far none, B2]
noncomputable def hCf1 (C X : List AV) (B2 : ABlk) (n : Nat) (k r : Int) : AHeap := []
theorem nfCf {R : Type} (C X : List AV) (B2 : ABlk) (n : Nat) (k r : Int) (K : AV → AHeap → Option R) :
 qrun Try.prog (tCf r) 100 4 [] [] 35 [.sl (some (0, 0)) n 0 false, fMx 1] (hMx C k X B2) K =
 (if cdec (IxR [AV.sl (some (0, 0)) n 0 false, AV.fn (Fn.func 36) [AV.ptr (some (1, 0))]] (hCf0 C X B2 n k r) (int i64 r) (hCf1 C X B2 n k r)) = true then
 K (AV.bool (decide (r ≥ 0))) ((hCf0 C X B2 n k r))
 else none) := by
  kernel_rfl


end Go.Proofs.Ytjlepcfeeicdfaa.L
