/- command.place, command.from: rows. -/
import Derived.Test.YtjlepcfeeicdfaaCKit
set_option autoImplicit false
set_option maxRecDepth 100000
set_option linter.unusedVariables false
set_option linter.unusedSimpArgs false
namespace Go.Proofs.Ytjlepcfeeicdfaa.L
open Go Go.Abs
open Go.IntKind (u8 u16 u32 u64 i64)
open Go.Abs.AV (int)
open Go.Abs.ABlk (cells)

noncomputable def tPc (A Z : List UInt8) : Tbl := [(39, entF (eSay eBytes [(2, slB 2 A, [ownB A])])), (38, entF (eSay eApp16 [(5, slB 5 Z, [ownB Z])]))]
theorem tPcOk (A Z : List UInt8) : ∀ f E, (tPc A Z).find f = some E → SoundE Try.prog f E := find_cons (sSay sABytes _) (find_cons (sSay sApp16 _) (find_nil _))
noncomputable def hPcF0 (x : Nat → Int) (po : Int) (y : Nat → UInt8) (Z : List UInt8) : AHeap := [cells (adF false x) 17 Md.own none, cells [b8 4] 1 Md.own none]
noncomputable def hPcF1 (x : Nat → Int) (po : Int) (y : Nat → UInt8) (Z : List UInt8) : AHeap := [cells [b8 (((y 0).toNat : Nat) : Int), b8 (((y 1).toNat : Nat) : Int), b8 (((y 2).toNat : Nat) : Int), b8 (((y 3).toNat : Nat) : Int)] 1 Md.own none]
noncomputable def hPcF2 (x : Nat → Int) (po : Int) (y : Nat → UInt8) (Z : List UInt8) : AHeap := [cells (adF false x) 17 Md.own none, cells [b8 4] 1 Md.own none, cells [b8 (((y 0).toNat : Nat) : Int), b8 (((y 1).toNat : Nat) : Int), b8 (((y 2).toNat : Nat) : Int), b8 (((y 3).toNat : Nat) : Int)] 1 Md.own none, cells [AV.sl (some (1, 0)) 1 0 false, AV.sl (some (2, 0)) [y 0, y 1, y 2, y 3].length 0 false] 1 Md.own none, cells [b8 4, b8 (((y 0).toNat : Nat) : Int), b8 (((y 1).toNat : Nat) : Int), b8 (((y 2).toNat : Nat) : Int), b8 (((y 3).toNat : Nat) : Int)] 1 Md.own none]
noncomputable def hPcF3 (x : Nat → Int) (po : Int) (y : Nat → UInt8) (Z : List UInt8) : AHeap := [cells (bys Z) 1 Md.own none]
noncomputable def hPcF4 (x : Nat → Int) (po : Int) (y : Nat → UInt8) (Z : List UInt8) : AHeap := [cells (adF false x) 17 Md.own none, cells [b8 4] 1 Md.own none, cells [b8 (((y 0).toNat : Nat) : Int), b8 (((y 1).toNat : Nat) : Int), b8 (((y 2).toNat : Nat) : Int), b8 (((y 3).toNat : Nat) : Int)] 1 Md.own none, cells [AV.sl (some (1, 0)) 1 0 false, AV.sl (some (2, 0)) [y 0, y 1, y 2, y 3].length 0 false] 1 Md.own none, cells [b8 4, b8 (((y 0).toNat : Nat) : Int), b8 (((y 1).toNat : Nat) : Int), b8 (((y 2).toNat : Nat) : Int), b8 (((y 3).toNat : Nat) : Int)] 1 Md.own none, cells (bys Z) 1 Md.own none]
theorem nfPcF {R : Type} (x : Nat → Int) (po : Int) (y : Nat → UInt8) (Z : List UInt8) (K : AV → AHeap → Option R) :
 qrun Try.prog (tPc [y 0, y 1, y 2, y 3] Z) 100 4 [] [] 27 [.agg (adF false x), .int .u16 po] [] K =
 (if cdec (Says eBytes [AV.agg (adF false x)] (hPcF0 x po y Z) (AV.sl (some (2, 0)) [y 0, y 1, y 2, y 3].length 0 false) (hPcF1 x po y Z)) = true then
 (if cdec (Says eApp16 [AV.sl (some (4, 0)) (1 + [y 0, y 1, y 2, y 3].length) (roomOf (i64.wrap (i64.wrap (1 + ↑[y 0, y 1, y 2, y 3].length) - 0)).toNat 0 0 false 0 false - 1 - [y 0, y 1, y 2, y 3].length) false, int u16 po] (hPcF2 x po y Z) (AV.sl (some (5, 0)) Z.length 0 false) (hPcF3 x po y Z)) = true then
 K (AV.sl (some (5, 0)) Z.length 0 false) ((hPcF4 x po y Z))
 else none) else none) := by
  kernel_rfl

noncomputable def hPcT0 (x : Nat → Int) (po : Int) (y : Nat → UInt8) (Z : List UInt8) : AHeap := [cells (adF true x) 17 Md.own none, cells [b8 6] 1 Md.own none]
noncomputable def hPcT1 (x : Nat → Int) (po : Int) (y : Nat → UInt8) (Z : List UInt8) : AHeap := [cells [b8 (((y 0).toNat : Nat) : Int), b8 (((y 1).toNat : Nat) : Int), b8 (((y 2).toNat : Nat) : Int), b8 (((y 3).toNat : Nat) : Int), b8 (((y 4).toNat : Nat) : Int), b8 (((y 5).toNat : Nat) : Int), b8 (((y 6).toNat : Nat) : Int), b8 (((y 7).toNat : Nat) : Int), b8 (((y 8).toNat : Nat) : Int), b8 (((y 9).toNat : Nat) : Int), b8 (((y 10).toNat : Nat) : Int), b8 (((y 11).toNat : Nat) : Int), b8 (((y 12).toNat : Nat) : Int), b8 (((y 13).toNat : Nat) : Int), b8 (((y 14).toNat : Nat) : Int), b8 (((y 15).toNat : Nat) : Int)] 1 Md.own none]
noncomputable def hPcT2 (x : Nat → Int) (po : Int) (y : Nat → UInt8) (Z : List UInt8) : AHeap := [cells (adF true x) 17 Md.own none, cells [b8 6] 1 Md.own none, cells [b8 (((y 0).toNat : Nat) : Int), b8 (((y 1).toNat : Nat) : Int), b8 (((y 2).toNat : Nat) : Int), b8 (((y 3).toNat : Nat) : Int), b8 (((y 4).toNat : Nat) : Int), b8 (((y 5).toNat : Nat) : Int), b8 (((y 6).toNat : Nat) : Int), b8 (((y 7).toNat : Nat) : Int), b8 (((y 8).toNat : Nat) : Int), b8 (((y 9).toNat : Nat) : Int), b8 (((y 10).toNat : Nat) : Int), b8 (((y 11).toNat : Nat) : Int), b8 (((y 12).toNat : Nat) : Int), b8 (((y 13).toNat : Nat) : Int), b8 (((y 14).toNat : Nat) : Int), b8 (((y 15).toNat : Nat) : Int)] 1 Md.own none, cells [AV.sl (some (1, 0)) 1 0 false, AV.sl (some (2, 0)) [y 0, y 1, y 2, y 3, y 4, y 5, y 6, y 7, y 8, y 9, y 10, y 11, y 12, y 13, y 14, y 15].length 0 false] 1 Md.own none, cells [b8 6, b8 (((y 0).toNat : Nat) : Int), b8 (((y 1).toNat : Nat) : Int), b8 (((y 2).toNat : Nat) : Int), b8 (((y 3).toNat : Nat) : Int), b8 (((y 4).toNat : Nat) : Int), b8 (((y 5).toNat : Nat) : Int), b8 (((y 6).toNat : Nat) : Int), b8 (((y 7).toNat : Nat) : Int), b8 (((y 8).toNat : Nat) : Int), b8 (((y 9).toNat : Nat) : Int), b8 (((y 10).toNat : Nat) : Int), b8 (((y 11).toNat : Nat) : Int), b8 (((y 12).toNat : Nat) : Int), b8 (((y 13).toNat : Nat) : Int), b8 (((y 14).toNat : Nat) : Int), b8 (((y 15).toNat : Nat) : Int)] 1 Md.own none]
noncomputable def hPcT3 (x : Nat → Int) (po : Int) (y : Nat → UInt8) (Z : List UInt8) : AHeap := [cells (bys Z) 1 Md.own none]
noncomputable def hPcT4 (x : Nat → Int) (po : Int) (y : Nat → UInt8) (Z : List UInt8) : AHeap := [cells (adF true x) 17 Md.own none, cells [b8 6] 1 Md.own none, cells [b8 (((y 0).toNat : Nat) : Int), b8 (((y 1).toNat : Nat) : Int), b8 (((y 2).toNat : Nat) : Int), b8 (((y 3).toNat : Nat) : Int), b8 (((y 4).toNat : Nat) : Int), b8 (((y 5).toNat : Nat) : Int), b8 (((y 6).toNat : Nat) : Int), b8 (((y 7).toNat : Nat) : Int), b8 (((y 8).toNat : Nat) : Int), b8 (((y 9).toNat : Nat) : Int), b8 (((y 10).toNat : Nat) : Int), b8 (((y 11).toNat : Nat) : Int), b8 (((y 12).toNat : Nat) : Int), b8 (((y 13).toNat : Nat) : Int), b8 (((y 14).toNat : Nat) : Int), b8 (((y 15).toNat : Nat) : Int)] 1 Md.own none, cells [AV.sl (some (1, 0)) 1 0 false, AV.sl (some (2, 0)) [y 0, y 1, y 2, y 3, y 4, y 5, y 6, y 7, y 8, y 9, y 10, y 11, y 12, y 13, y 14, y 15].length 0 false] 1 Md.own none, cells [b8 6, b8 (((y 0).toNat : Nat) : Int), b8 (((y 1).toNat : Nat) : Int), b8 (((y 2).toNat : Nat) : Int), b8 (((y 3).toNat : Nat) : Int), b8 (((y 4).toNat : Nat) : Int), b8 (((y 5).toNat : Nat) : Int), b8 (((y 6).toNat : Nat) : Int), b8 (((y 7).toNat : Nat) : Int), b8 (((y 8).toNat : Nat) : Int), b8 (((y 9).toNat : Nat) : Int), b8 (((y 10).toNat : Nat) : Int), b8 (((y 11).toNat : Nat) : Int), b8 (((y 12).toNat : Nat) : Int), b8 (((y 13).toNat : Nat) : Int), b8 (((y 14).toNat : Nat) : Int), b8 (((y 15).toNat : Nat) : Int)] 1 Md.own none, cells (bys Z) 1 Md.own none]
theorem nfPcT {R : Type} (x : Nat → Int) (po : Int) (y : Nat → UInt8) (Z : List UInt8) (K : AV → AHeap → Option R) :
 qrun Try.prog (tPc [y 0, y 1, y 2, y 3, y 4, y 5, y 6, y 7, y 8, y 9, y 10, y 11, y 12, y 13, y 14, y 15] Z) 100 4 [] [] 27 [.agg (adF true x), .int .u16 po] [] K =
 (if cdec (Says eBytes [AV.agg (adF true x)] (hPcT0 x po y Z) (AV.sl (some (2, 0)) [y 0, y 1, y 2, y 3, y 4, y 5, y 6, y 7, y 8, y 9, y 10, y 11, y 12, y 13, y 14, y 15].length 0 false) (hPcT1 x po y Z)) = true then
 (if cdec (Says eApp16 [AV.sl (some (4, 0)) (1 + [y 0, y 1, y 2, y 3, y 4, y 5, y 6, y 7, y 8, y 9, y 10, y 11, y 12, y 13, y 14, y 15].length) (roomOf (i64.wrap (i64.wrap (1 + ↑[y 0, y 1, y 2, y 3, y 4, y 5, y 6, y 7, y 8, y 9, y 10, y 11, y 12, y 13, y 14, y 15].length) - 0)).toNat 0 0 false 0 false - 1 - [y 0, y 1, y 2, y 3, y 4, y 5, y 6, y 7, y 8, y 9, y 10, y 11, y 12, y 13, y 14, y 15].length) false, int u16 po] (hPcT2 x po y Z) (AV.sl (some (5, 0)) Z.length 0 false) (hPcT3 x po y Z)) = true then
 K (AV.sl (some (5, 0)) Z.length 0 false) ((hPcT4 x po y Z))
 else none) else none) := by
  kernel_rfl


end Go.Proofs.Ytjlepcfeeicdfaa.L
