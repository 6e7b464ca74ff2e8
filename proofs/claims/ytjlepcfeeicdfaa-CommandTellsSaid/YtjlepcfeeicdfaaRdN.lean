/- The reference's dip, Dip, DipBytes: rows. -/
import Derived.Test.YtjlepcfeeicdfaaAdK
set_option autoImplicit false
set_option maxRecDepth 100000
set_option linter.unusedVariables false
set_option linter.unusedSimpArgs false
namespace Go.Proofs.Ytjlepcfeeicdfaa.L
open Go Go.Abs
open Go.IntKind (u8 u16 u32 u64 i64)
open Go.Abs.AV (int)
open Go.Abs.ABlk (cells)

noncomputable def tRd (v : AV) (po : Int) : Tbl := [(40, entF (eSay eAd [(2, v, [])])), (41, entF (eSay eBe16 [(3, .int .i64 po, [])]))]
theorem tRdOk (v : AV) (po : Int) : ∀ f E, (tRd v po).find f = some E → SoundE Try.prog f E := find_cons (sSay sAd _) (find_cons (sSay sBe16 _) (find_nil _))
noncomputable def hRd0 (l : List UInt8) (i : Int) (w ok : Bool) (x : Nat → Int) (nx po : Int) : AHeap := [cells (bys l) 1 Md.far none, ABlk.cells dipZ 18 Md.own none]
noncomputable def hRd1 (l : List UInt8) (i : Int) (w ok : Bool) (x : Nat → Int) (nx po : Int) : AHeap := []
noncomputable def hRd2 (l : List UInt8) (i : Int) (w ok : Bool) (x : Nat → Int) (nx po : Int) : AHeap := [cells (bys l) 1 Md.far none, ABlk.cells dipZ 18 Md.own none, cells (adF w x) 17 Md.own none]
noncomputable def hRd3 (l : List UInt8) (i : Int) (w ok : Bool) (x : Nat → Int) (nx po : Int) : AHeap := [cells (bys l) 1 Md.far none, cells [AV.bool w, b8 (x 0), b8 (x 1), b8 (x 2), b8 (x 3), b8 (x 4), b8 (x 5), b8 (x 6), b8 (x 7), b8 (x 8), b8 (x 9), b8 (x 10), b8 (x 11), b8 (x 12), b8 (x 13), b8 (x 14), b8 (x 15), int u16 (u16.wrap po)] 18 Md.own none, cells (adF w x) 17 Md.own none]
theorem nfRd {R : Type} (l : List UInt8) (i : Int) (w ok : Bool) (x : Nat → Int) (nx po : Int) (K : AV → AHeap → Option R) :
 qrun Try.prog (tRd (.tup [.agg (adF w x), .int .i64 nx, .bool ok]) po) 100 4 [] [] 28 [slB 0 l, .int .i64 i] [farB l] K =
 (if cdec (Says eAd [AV.sl (some (0, 0)) l.length 0 false, int i64 i] (hRd0 l i w ok x nx po) (AV.tup [AV.agg (adF w x), int i64 nx, AV.bool ok]) (hRd1 l i w ok x nx po)) = true then
 (if (!ok) = true then
 K (AV.tup [AV.agg dipZ, int i64 0, AV.bool false]) ((hRd2 l i w ok x nx po))
 else (if decide (i64.wrap (nx + 2) > (l.length : Int)) = true then
 K (AV.tup [AV.agg dipZ, int i64 0, AV.bool false]) ((hRd2 l i w ok x nx po))
 else (if cdec (Says eBe16 [AV.sl (some (0, 0)) l.length 0 false, int i64 nx] (hRd2 l i w ok x nx po) (int i64 po) (hRd1 l i w ok x nx po)) = true then
 (if (AV.agg (adF w x)).beq (AV.agg (adF w x)) = true then
 K (AV.tup [AV.agg [AV.bool w, b8 (x 0), b8 (x 1), b8 (x 2), b8 (x 3), b8 (x 4), b8 (x 5), b8 (x 6), b8 (x 7), b8 (x 8), b8 (x 9), b8 (x 10), b8 (x 11), b8 (x 12), b8 (x 13), b8 (x 14), b8 (x 15), int u16 (u16.wrap po)], int i64 (i64.wrap (nx + 2)), AV.bool true]) ((hRd3 l i w ok x nx po))
 else none) else none)))
 else none) := by
  kernel_rfl

noncomputable def tRb (A : List UInt8) : Tbl := [(30, entF (eSay eBytes [(2, slB 2 A, [ownB A])]))]
theorem tRbOk (A : List UInt8) : ∀ f E, (tRb A).find f = some E → SoundE Try.prog f E := find_cons (sSay sRBytes _) (find_nil _)
noncomputable def hRbF0 (x : Nat → Int) (po : Int) (y : Nat → UInt8) : AHeap := [cells (adF false x ++ [.int .u16 po]) 18 Md.own none, cells [b8 4] 1 Md.own none]
noncomputable def hRbF1 (x : Nat → Int) (po : Int) (y : Nat → UInt8) : AHeap := [cells [b8 (((y 0).toNat : Nat) : Int), b8 (((y 1).toNat : Nat) : Int), b8 (((y 2).toNat : Nat) : Int), b8 (((y 3).toNat : Nat) : Int)] 1 Md.own none]
noncomputable def hRbF2 (x : Nat → Int) (po : Int) (y : Nat → UInt8) : AHeap := [cells (adF false x ++ [.int .u16 po]) 18 Md.own none, ABlk.dead, cells [b8 (((y 0).toNat : Nat) : Int), b8 (((y 1).toNat : Nat) : Int), b8 (((y 2).toNat : Nat) : Int), b8 (((y 3).toNat : Nat) : Int)] 1 Md.own none, cells [b8 4, b8 (((y 0).toNat : Nat) : Int), b8 (((y 1).toNat : Nat) : Int), b8 (((y 2).toNat : Nat) : Int), b8 (((y 3).toNat : Nat) : Int)] 1 Md.ro none, cells [b8 (u8.wrap ((intV (some (int u16 po))).fdiv 256)), b8 (u8.wrap (intV (some (int u16 po))))] 1 Md.own none, cells [b8 4, b8 (((y 0).toNat : Nat) : Int), b8 (((y 1).toNat : Nat) : Int), b8 (((y 2).toNat : Nat) : Int), b8 (((y 3).toNat : Nat) : Int), b8 (u8.wrap ((intV (some (int u16 po))).fdiv 256)), b8 (u8.wrap (intV (some (int u16 po))))] 1 Md.own (some 3)]
theorem nfRbF {R : Type} (x : Nat → Int) (po : Int) (y : Nat → UInt8) (K : AV → AHeap → Option R) :
 qrun Try.prog (tRb [y 0, y 1, y 2, y 3]) 100 4 [] [] 17 [.agg (adF false x ++ [.int .u16 po])] [] K =
 (if cdec (Says eBytes [AV.agg (adF false x)] (hRbF0 x po y) (AV.sl (some (2, 0)) [y 0, y 1, y 2, y 3].length 0 false) (hRbF1 x po y)) = true then
 K (AV.sl (some (5, 0)) (1 + [y 0, y 1, y 2, y 3].length + 2) 0 false) ((hRbF2 x po y))
 else none) := by
  kernel_rfl

noncomputable def hRbT0 (x : Nat → Int) (po : Int) (y : Nat → UInt8) : AHeap := [cells (adF true x ++ [.int .u16 po]) 18 Md.own none, cells [b8 6] 1 Md.own none]
noncomputable def hRbT1 (x : Nat → Int) (po : Int) (y : Nat → UInt8) : AHeap := [cells [b8 (((y 0).toNat : Nat) : Int), b8 (((y 1).toNat : Nat) : Int), b8 (((y 2).toNat : Nat) : Int), b8 (((y 3).toNat : Nat) : Int), b8 (((y 4).toNat : Nat) : Int), b8 (((y 5).toNat : Nat) : Int), b8 (((y 6).toNat : Nat) : Int), b8 (((y 7).toNat : Nat) : Int), b8 (((y 8).toNat : Nat) : Int), b8 (((y 9).toNat : Nat) : Int), b8 (((y 10).toNat : Nat) : Int), b8 (((y 11).toNat : Nat) : Int), b8 (((y 12).toNat : Nat) : Int), b8 (((y 13).toNat : Nat) : Int), b8 (((y 14).toNat : Nat) : Int), b8 (((y 15).toNat : Nat) : Int)] 1 Md.own none]
noncomputable def hRbT2 (x : Nat → Int) (po : Int) (y : Nat → UInt8) : AHeap := [cells (adF true x ++ [.int .u16 po]) 18 Md.own none, ABlk.dead, cells [b8 (((y 0).toNat : Nat) : Int), b8 (((y 1).toNat : Nat) : Int), b8 (((y 2).toNat : Nat) : Int), b8 (((y 3).toNat : Nat) : Int), b8 (((y 4).toNat : Nat) : Int), b8 (((y 5).toNat : Nat) : Int), b8 (((y 6).toNat : Nat) : Int), b8 (((y 7).toNat : Nat) : Int), b8 (((y 8).toNat : Nat) : Int), b8 (((y 9).toNat : Nat) : Int), b8 (((y 10).toNat : Nat) : Int), b8 (((y 11).toNat : Nat) : Int), b8 (((y 12).toNat : Nat) : Int), b8 (((y 13).toNat : Nat) : Int), b8 (((y 14).toNat : Nat) : Int), b8 (((y 15).toNat : Nat) : Int)] 1 Md.own none, cells [b8 6, b8 (((y 0).toNat : Nat) : Int), b8 (((y 1).toNat : Nat) : Int), b8 (((y 2).toNat : Nat) : Int), b8 (((y 3).toNat : Nat) : Int), b8 (((y 4).toNat : Nat) : Int), b8 (((y 5).toNat : Nat) : Int), b8 (((y 6).toNat : Nat) : Int), b8 (((y 7).toNat : Nat) : Int), b8 (((y 8).toNat : Nat) : Int), b8 (((y 9).toNat : Nat) : Int), b8 (((y 10).toNat : Nat) : Int), b8 (((y 11).toNat : Nat) : Int), b8 (((y 12).toNat : Nat) : Int), b8 (((y 13).toNat : Nat) : Int), b8 (((y 14).toNat : Nat) : Int), b8 (((y 15).toNat : Nat) : Int)] 1 Md.ro none, cells [b8 (u8.wrap ((intV (some (int u16 po))).fdiv 256)), b8 (u8.wrap (intV (some (int u16 po))))] 1 Md.own none, cells [b8 6, b8 (((y 0).toNat : Nat) : Int), b8 (((y 1).toNat : Nat) : Int), b8 (((y 2).toNat : Nat) : Int), b8 (((y 3).toNat : Nat) : Int), b8 (((y 4).toNat : Nat) : Int), b8 (((y 5).toNat : Nat) : Int), b8 (((y 6).toNat : Nat) : Int), b8 (((y 7).toNat : Nat) : Int), b8 (((y 8).toNat : Nat) : Int), b8 (((y 9).toNat : Nat) : Int), b8 (((y 10).toNat : Nat) : Int), b8 (((y 11).toNat : Nat) : Int), b8 (((y 12).toNat : Nat) : Int), b8 (((y 13).toNat : Nat) : Int), b8 (((y 14).toNat : Nat) : Int), b8 (((y 15).toNat : Nat) : Int), b8 (u8.wrap ((intV (some (int u16 po))).fdiv 256)), b8 (u8.wrap (intV (some (int u16 po))))] 1 Md.own (some 3)]
theorem nfRbT {R : Type} (x : Nat → Int) (po : Int) (y : Nat → UInt8) (K : AV → AHeap → Option R) :
 qrun Try.prog (tRb [y 0, y 1, y 2, y 3, y 4, y 5, y 6, y 7, y 8, y 9, y 10, y 11, y 12, y 13, y 14, y 15]) 100 4 [] [] 17 [.agg (adF true x ++ [.int .u16 po])] [] K =
 (if cdec (Says eBytes [AV.agg (adF true x)] (hRbT0 x po y) (AV.sl (some (2, 0)) [y 0, y 1, y 2, y 3, y 4, y 5, y 6, y 7, y 8, y 9, y 10, y 11, y 12, y 13, y 14, y 15].length 0 false) (hRbT1 x po y)) = true then
 K (AV.sl (some (5, 0)) (1 + [y 0, y 1, y 2, y 3, y 4, y 5, y 6, y 7, y 8, y 9, y 10, y 11, y 12, y 13, y 14, y 15].length + 2) 0 false) ((hRbT2 x po y))
 else none) := by
  kernel_rfl


end Go.Proofs.Ytjlepcfeeicdfaa.L
