/- command.DipBytes, command.Dip: rows. -/
import Derived.Test.YtjlepcfeeicdfaaPcK
set_option autoImplicit false
set_option maxRecDepth 100000
set_option linter.unusedVariables false
set_option linter.unusedSimpArgs false
namespace Go.Proofs.Ytjlepcfeeicdfaa.L
open Go Go.Abs
open Go.IntKind (u8 u16 u32 u64 i64)
open Go.Abs.AV (int)
open Go.Abs.ABlk (cells)

noncomputable def tDb (Z : List UInt8) : Tbl := [(29, entF eValD), (27, entF (eRel PcR [(1, slB 1 Z, [ownB Z])]))]
theorem tDbOk (Z : List UInt8) : ∀ f E, (tDb Z).find f = some E → SoundE Try.prog f E := find_cons sPVal (find_cons (sPc _) (find_nil _))
noncomputable def tDi (v : AV) : Tbl := [(22, entF (eSay eFro [(2, v, [])]))]
theorem tDiOk (v : AV) : ∀ f E, (tDi v).find f = some E → SoundE Try.prog f E := find_cons (sSay sFro _) (find_nil _)
noncomputable def hDb0 (w : Bool) (x : Nat → Int) (po : Int) (Z : List UInt8) : AHeap := [cells (adF w x ++ [.int .u16 po]) 18 Md.own none]
noncomputable def hDb1 (w : Bool) (x : Nat → Int) (po : Int) (Z : List UInt8) : AHeap := [cells (bys Z) 1 Md.own none]
noncomputable def hDb2 (w : Bool) (x : Nat → Int) (po : Int) (Z : List UInt8) : AHeap := [cells (adF w x ++ [.int .u16 po]) 18 Md.own none, cells (bys Z) 1 Md.own none]
theorem nfDb {R : Type} (w : Bool) (x : Nat → Int) (po : Int) (Z : List UInt8) (K : AV → AHeap → Option R) :
 qrun Try.prog (tDb Z) 100 4 [] [] 14 [.agg (adF w x ++ [.int .u16 po])] [] K =
 (if cdec (IsAdr (adF w x)) = true then
 (if (!opq (adrValid (adF w x))) = true then
 K (AV.tup [AV.sl none 0 0 true, int i64 2]) ((hDb0 w x po Z))
 else (if cdec (PcR [AV.agg (adF w x), int u16 (intV (some (int u16 po)))] (hDb0 w x po Z) (AV.sl (some (1, 0)) Z.length 0 false) (hDb1 w x po Z)) = true then
 K (AV.tup [AV.sl (some (1, 0)) Z.length 0 false, int i64 0]) ((hDb2 w x po Z))
 else none))
 else none) := by
  kernel_rfl

noncomputable def hDi0 (l : List UInt8) (w : Bool) (x : Nat → Int) (po n : Int) : AHeap := [cells (bys l) 1 Md.far none, ABlk.cells dipZ 18 Md.own none]
noncomputable def hDi1 (l : List UInt8) (w : Bool) (x : Nat → Int) (po n : Int) : AHeap := []
noncomputable def hDi2 (l : List UInt8) (w : Bool) (x : Nat → Int) (po n : Int) : AHeap := [cells (bys l) 1 Md.far none, ABlk.cells dipZ 18 Md.own none, cells (adF w x) 17 Md.own none]
noncomputable def hDi3 (l : List UInt8) (w : Bool) (x : Nat → Int) (po n : Int) : AHeap := [cells (bys l) 1 Md.far none, cells (adF w x ++ [.int .u16 po]) 18 Md.own none, cells (adF w x) 17 Md.own none]
theorem nfDi {R : Type} (l : List UInt8) (w : Bool) (x : Nat → Int) (po n : Int) (K : AV → AHeap → Option R) :
 qrun Try.prog (tDi (.tup [.agg (adF w x), .int .u16 po, .int .i64 n])) 100 4 [] [] 12 [slB 0 l] [farB l] K =
 (if cdec (Says eFro [AV.sl (some (0, 0)) l.length 0 false] (hDi0 l w x po n) (AV.tup [AV.agg (adF w x), int u16 po, int i64 n]) (hDi1 l w x po n)) = true then
 (if (n == 0) = true then
 K (AV.tup [AV.agg dipZ, int i64 2]) ((hDi2 l w x po n))
 else (if (n != (l.length : Int)) = true then
 K (AV.tup [AV.agg dipZ, int i64 2]) ((hDi2 l w x po n))
 else K (AV.tup [AV.agg (adF w x ++ [.int .u16 po]), int i64 0]) ((hDi3 l w x po n))))
 else none) := by
  kernel_rfl


end Go.Proofs.Ytjlepcfeeicdfaa.L
