/- ContainsFunc, may: rows. -/
import Derived.Test.YtjlepcfeeicdfaaCfK
set_option autoImplicit false
set_option maxRecDepth 100000
set_option linter.unusedVariables false
set_option linter.unusedSimpArgs false
namespace Go.Proofs.Ytjlepcfeeicdfaa.L
open Go Go.Abs
open Go.IntKind (u8 u16 u32 u64 i64)
open Go.Abs.AV (int)
open Go.Abs.ABlk (cells)

noncomputable def tMy (c : Bool) : Tbl := [(29, entF eValD), (35, entF (eRel CfR [(2, .bool c, [])]))]
theorem tMyOk (c : Bool) : ∀ f E, (tMy c).find f = some E → SoundE Try.prog f E := find_cons sPVal (find_cons (sCf _) (find_nil _))
def cmA (k pr : Int) (w : Bool) (x : Nat → Int) (po : Int) (a : AV) : List AV := .int .i64 k :: .int .u8 pr :: (adF w x ++ [.int .u16 po, a])
noncomputable def hMyT0 (C : List AV) (n : Nat) (k pr : Int) (w : Bool) (x : Nat → Int) (po : Int) : AHeap := [ABlk.cells C 19 Md.far none, cells [int i64 k, b8 pr, AV.bool w, b8 (x 0), b8 (x 1), b8 (x 2), b8 (x 3), b8 (x 4), b8 (x 5), b8 (x 6), b8 (x 7), b8 (x 8), b8 (x 9), b8 (x 10), b8 (x 11), b8 (x 12), b8 (x 13), b8 (x 14), b8 (x 15), int u16 po, AV.sl (some (0, 0)) n 0 false] 21 Md.own none]
theorem nfMyT {R : Type} (C : List AV) (n : Nat) (k pr : Int) (w : Bool) (x : Nat → Int) (po : Int) (K : AV → AHeap → Option R) :
 qrun Try.prog (tMy true) 100 4 [(43, .bool true)] [] 25 [.agg (cmA k pr w x po (.sl (some (0, 0)) n 0 false))] [.cells C 19 .far none] K =
 (if decide (intV (some (int i64 k)) < 1) = true then
 K (AV.bool false) ((hMyT0 C n k pr w x po))
 else (if decide (intV (some (int i64 k)) > 5) = true then
 K (AV.bool false) ((hMyT0 C n k pr w x po))
 else (if decide ((n : Int) > 255) = true then
 K (AV.bool false) ((hMyT0 C n k pr w x po))
 else (if (intV (some (int i64 k)) == 2) = true then
 (if decide ((n : Int) > 0) = true then
 K (AV.bool false) ((hMyT0 C n k pr w x po))
 else (if decide (intV (some (int i64 k)) ≥ 3) = true then
 (if decide (intV (some (int i64 k)) ≤ 5) = true then
 (if ((n : Int) != 1) = true then
 K (AV.bool false) ((hMyT0 C n k pr w x po))
 else (if cdec (IsAdr (adF w x)) = true then
 (if (!opq (adrValid (adF w x))) = true then
 K (AV.bool false) ((hMyT0 C n k pr w x po))
 else none) else none))
 else (if cdec (IsAdr (adF w x)) = true then
 (if (!opq (adrValid (adF w x))) = true then
 K (AV.bool false) ((hMyT0 C n k pr w x po))
 else none) else none))
 else (if cdec (IsAdr (adF w x)) = true then
 (if (!opq (adrValid (adF w x))) = true then
 K (AV.bool false) ((hMyT0 C n k pr w x po))
 else none) else none)))
 else (if decide (intV (some (int i64 k)) ≥ 3) = true then
 (if decide (intV (some (int i64 k)) ≤ 5) = true then
 (if ((n : Int) != 1) = true then
 K (AV.bool false) ((hMyT0 C n k pr w x po))
 else (if cdec (IsAdr (adF w x)) = true then
 (if (!opq (adrValid (adF w x))) = true then
 K (AV.bool false) ((hMyT0 C n k pr w x po))
 else none) else none))
 else (if cdec (IsAdr (adF w x)) = true then
 (if (!opq (adrValid (adF w x))) = true then
 K (AV.bool false) ((hMyT0 C n k pr w x po))
 else none) else none))
 else (if cdec (IsAdr (adF w x)) = true then
 (if (!opq (adrValid (adF w x))) = true then
 K (AV.bool false) ((hMyT0 C n k pr w x po))
 else none) else none)))))) := by
  kernel_rfl

noncomputable def hMyF0 (C : List AV) (n : Nat) (k pr : Int) (w c : Bool) (x : Nat → Int) (po : Int) : AHeap := [ABlk.cells C 19 Md.far none, cells [int i64 k, b8 pr, AV.bool w, b8 (x 0), b8 (x 1), b8 (x 2), b8 (x 3), b8 (x 4), b8 (x 5), b8 (x 6), b8 (x 7), b8 (x 8), b8 (x 9), b8 (x 10), b8 (x 11), b8 (x 12), b8 (x 13), b8 (x 14), b8 (x 15), int u16 po, AV.sl (some (0, 0)) n 0 false] 21 Md.own none]
noncomputable def hMyF1 (C : List AV) (n : Nat) (k pr : Int) (w c : Bool) (x : Nat → Int) (po : Int) : AHeap := []
theorem nfMyF {R : Type} (C : List AV) (n : Nat) (k pr : Int) (w c : Bool) (x : Nat → Int) (po : Int) (K : AV → AHeap → Option R) :
 qrun Try.prog (tMy c) 100 4 [(43, .bool false)] [] 25 [.agg (cmA k pr w x po (.sl (some (0, 0)) n 0 false))] [.cells C 19 .far none] K =
 (if decide (intV (some (int i64 k)) < 1) = true then
 none
 else (if decide (intV (some (int i64 k)) > 5) = true then
 none
 else (if decide ((n : Int) > 255) = true then
 none
 else (if (intV (some (int i64 k)) == 2) = true then
 (if decide ((n : Int) > 0) = true then
 none
 else (if decide (intV (some (int i64 k)) ≥ 3) = true then
 (if decide (intV (some (int i64 k)) ≤ 5) = true then
 (if ((n : Int) != 1) = true then
 none
 else (if cdec (IsAdr (adF w x)) = true then
 (if (!opq (adrValid (adF w x))) = false then
 (if cdec (CfR [AV.sl (some (0, 0)) n 0 false, AV.fn (Fn.func 36) [AV.ptr (some (1, 0))]] (hMyF0 C n k pr w c x po) (AV.bool c) (hMyF1 C n k pr w c x po)) = true then
 K (AV.bool !c) ((hMyF0 C n k pr w c x po))
 else none) else none) else none))
 else (if cdec (IsAdr (adF w x)) = true then
 (if (!opq (adrValid (adF w x))) = false then
 (if cdec (CfR [AV.sl (some (0, 0)) n 0 false, AV.fn (Fn.func 36) [AV.ptr (some (1, 0))]] (hMyF0 C n k pr w c x po) (AV.bool c) (hMyF1 C n k pr w c x po)) = true then
 K (AV.bool !c) ((hMyF0 C n k pr w c x po))
 else none) else none) else none))
 else (if cdec (IsAdr (adF w x)) = true then
 (if (!opq (adrValid (adF w x))) = false then
 (if cdec (CfR [AV.sl (some (0, 0)) n 0 false, AV.fn (Fn.func 36) [AV.ptr (some (1, 0))]] (hMyF0 C n k pr w c x po) (AV.bool c) (hMyF1 C n k pr w c x po)) = true then
 K (AV.bool !c) ((hMyF0 C n k pr w c x po))
 else none) else none) else none)))
 else (if decide (intV (some (int i64 k)) ≥ 3) = true then
 (if decide (intV (some (int i64 k)) ≤ 5) = true then
 (if ((n : Int) != 1) = true then
 none
 else (if cdec (IsAdr (adF w x)) = true then
 (if (!opq (adrValid (adF w x))) = false then
 (if cdec (CfR [AV.sl (some (0, 0)) n 0 false, AV.fn (Fn.func 36) [AV.ptr (some (1, 0))]] (hMyF0 C n k pr w c x po) (AV.bool c) (hMyF1 C n k pr w c x po)) = true then
 K (AV.bool !c) ((hMyF0 C n k pr w c x po))
 else none) else none) else none))
 else (if cdec (IsAdr (adF w x)) = true then
 (if (!opq (adrValid (adF w x))) = false then
 (if cdec (CfR [AV.sl (some (0, 0)) n 0 false, AV.fn (Fn.func 36) [AV.ptr (some (1, 0))]] (hMyF0 C n k pr w c x po) (AV.bool c) (hMyF1 C n k pr w c x po)) = true then
 K (AV.bool !c) ((hMyF0 C n k pr w c x po))
 else none) else none) else none))
 else (if cdec (IsAdr (adF w x)) = true then
 (if (!opq (adrValid (adF w x))) = false then
 (if cdec (CfR [AV.sl (some (0, 0)) n 0 false, AV.fn (Fn.func 36) [AV.ptr (some (1, 0))]] (hMyF0 C n k pr w c x po) (AV.bool c) (hMyF1 C n k pr w c x po)) = true then
 K (AV.bool !c) ((hMyF0 C n k pr w c x po))
 else none) else none) else none)))))) := by
  kernel_rfl


end Go.Proofs.Ytjlepcfeeicdfaa.L
