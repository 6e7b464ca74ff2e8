/- command.place, command.from: rows. -/
import Derived.Test.YtjlepcfeeicdfaaCKit
set_option autoImplicit false
set_option maxRecDepth 100000
set_option linter.unusedVariables false
set_option linter.unusedSimpArgs false
namespace Go.Proofs.Ytjlepcfeeicdfaa.L
open Go Go.Abs
open Go.IntKind (u8 u16 u32 u64 i64)
open Go.Abs.AV (int)
open Go.Abs.ABlk (cells)

noncomputable def tPc (A Z : List UInt8) : Tbl := [(39, entF (eSay eBytes [(2, slB 2 A, [ownB A])])), (38, entF (eSay eApp16 [(5, slB 5 Z, [ownB Z])]))]
theorem tPcOk (A Z : List UInt8) : ∀ f E, (tPc A Z).find f = some E → SoundE Try.prog f E := find_cons (sSay sABytes _) (find_cons (sSay sApp16 _) (find_nil _))
noncomputable def hPcF0 (x : Nat → Int) (po : Int) (y : Nat → UInt8) (Z : List UInt8) : AHeap := [cells (adF false x) 17 Md.own none, cells [b8 4] 1 Md.own none]
noncomputable def hPcF1 (x : Nat → Int) (po : Int) (y : Nat → UInt8) (Z : List UInt8) : AHeap := [cells [b8 (((y 0).toNat : Nat) : Int), b8 (((y 1).toNat : Nat) : Int), b8 (((y 2).toNat : Nat) : Int), b8 (((y 3).toNat : Nat) : Int)] 1 Md.own none]
noncomputable def hPcF2 (x : Nat → Int) (po : Int) (y : Nat → UInt8) (Z : List UInt8) : AHeap := [cells (adF false x) 17 Md.own none, cells [b8 4] 1 Md.own none, cells [b8 (((y 0).toNat : Nat) : Int), b8 (((y 1).toNat : Nat) : Int), b8 (((y 2).toNat : Nat) : Int), b8 (((y 3).toNat : Nat) : Int)] 1 Md.own none, cells [AV.sl (some (1, 0)) 1 0 false, AV.sl (some (2, 0)) [y 0, y 1, y 2, y 3].length 0 false] 1 Md.own none, cells [b8 4, b8 (((y 0).toNat : Nat) : Int), b8 (((y 1).toNat : Nat) : Int), b8 (((y 2).toNat : Nat) : Int), b8 (((y 3).toNat : Nat) : Int)] 1 Md.own none]
noncomputable def hPcF3 (x : Nat → Int) (po : Int) (y : Nat → UInt8) (Z : List UInt8) : AHeap := [cells (bys Z) 1 Md.own none]
noncomputable def hPcF4 (x : Nat → Int) (po : Int) (y : Nat → UInt8) (Z : List UInt8) : AHeap := [cells (adF false x) 17 Md.own none, cells [b8 4] 1 Md.own none, cells [b8 (((y 0).toNat : Nat) : Int), b8 (((y 1).toNat : Nat) : Int), b8 (((y 2).toNat : Nat) : Int), b8 (((y 3).toNat : Nat) : Int)] 1 Md.own none, cells [AV.sl (some (1, 0)) 1 0 false, AV.sl (some (2, 0)) [y 0, y 1, y 2, y 3].length 0 false] 1 Md.own none, cells [b8 4, b8 (((y 0).toNat : Nat) : Int), b8 (((y 1).toNat : Nat) : Int), b8 (((y 2).toNat : Nat) : Int), b8 (((y 3).toNat : Nat) : Int)] 1 Md.own none, cells (bys Z) 1 Md.own none]
theorem nfPcF {R : Type} (x : Nat → Int) (po : Int) (y : Nat → UInt8) (Z : List UInt8) (K : AV → AHeap → Option R) :
 qrun Try.prog (tPc [y 0, y 1, y 2, y 3] Z) 100 4 [] [] 27 [.agg (adF false x), .int .u16 po] [] K =
 (if cdec (Says eBytes [AV.agg (adF false x)] (hPcF0 x po y Z) (AV.sl (some (2, 0)) [y 0, y 1, y 2, y 3].length 0 false) (hPcF1 x po y Z)) = true then
 (if cdec (Says eApp16 [AV.sl (some (4, 0)) (1 + [y 0, y 1, y 2, y 3].length) (roomOf (i64.wrap (i64.wrap (1 + ↑[y 0, y 1, y 2, y 3].length) - 0)).toNat 0 0 false 0 false - 1 - [y 0, y 1, y 2, y 3].length) false, int u16 po] (hPcF2 x po y Z) (AV.sl (some (5, 0)) Z.length 0 false) (hPcF3 x po y Z)) = true then
 K (AV.sl (some (5, 0)) Z.length 0 false) ((hPcF4 x po y Z))
 else none) else none) := by
  kernel_rfl

noncomputable def hPcT0 (x : Nat → Int) (po : Int) (y : Nat → UInt8) (Z : List UInt8) : AHeap := [cells (adF true x) 17 Md.own none, cells [b8 6] 1 Md.own none]
noncomputable def hPcT1 (x : Nat → Int) (po : Int) (y : Nat → UInt8) (Z : List UInt8) : AHeap := [cells [b8 (((y 0).toNat : Nat) : Int), b8 (((y 1).toNat : Nat) : Int), b8 (((y 2).toNat : Nat) : Int), b8 (((y 3).toNat : Nat) : Int), b8 (((y 4).toNat : Nat) : Int), b8 (((y 5).toNat : Nat) : Int), b8 (((y 6).toNat : Nat) : Int), b8 (((y 7).toNat : Nat) : Int), b8 (((y 8).toNat : Nat) : Int), b8 (((y 9).toNat : Nat) : Int), b8 (((y 10).toNat : Nat) : Int), b8 (((y 11).toNat : Nat) : Int), b8 (((y 12).toNat : Nat) : Int), b8 (((y 13).toNat : Nat) : Int), b8 (((y 14).toNat : Nat) : Int), b8 (((y 15).toNat : Nat) : Int)] 1 Md.own none]
noncomputable def hPcT2 (x : Nat → Int) (po : Int) (y : Nat → UInt8) (Z : List UInt8) : AHeap := [cells (adF true x) 17 Md.own none, cells [b8 6] 1 Md.own none, cells [b8 (((y 0).toNat : Nat) : Int), b8 (((y 1).toNat : Nat) : Int), b8 (((y 2).toNat : Nat) : Int), b8 (((y 3).toNat : Nat) : Int), b8 (((y 4).toNat : Nat) : Int), b8 (((y 5).toNat : Nat) : Int), b8 (((y 6).toNat : Nat) : Int), b8 (((y 7).toNat : Nat) : Int), b8 (((y 8).toNat : Nat) : Int), b8 (((y 9).toNat : Nat) : Int), b8 (((y 10).toNat : Nat) : Int), b8 (((y 11).toNat : Nat) : Int), b8 (((y 12).toNat : Nat) : Int), b8 (((y 13).toNat : Nat) : Int), b8 (((y 14).toNat : Nat) : Int), b8 (((y 15).toNat : Nat) : Int)] 1 Md.own none, cells [AV.sl (some (1, 0)) 1 0 false, AV.sl (some (2, 0)) [y 0, y 1, y 2, y 3, y 4, y 5, y 6, y 7, y 8, y 9, y 10, y 11, y 12, y 13, y 14, y 15].length 0 false] 1 Md.own none, cells [b8 6, b8 (((y 0).toNat : Nat) : Int), b8 (((y 1).toNat : Nat) : Int), b8 (((y 2).toNat : Nat) : Int), b8 (((y 3).toNat : Nat) : Int), b8 (((y 4).toNat : Nat) : Int), b8 (((y 5).toNat : Nat) : Int), b8 (((y 6).toNat : Nat) : Int), b8 (((y 7).toNat : Nat) : Int), b8 (((y 8).toNat : Nat) : Int), b8 (((y 9).toNat : Nat) : Int), b8 (((y 10).toNat : Nat) : Int), b8 (((y 11).toNat : Nat) : Int), b8 (((y 12).toNat : Nat) : Int), b8 (((y 13).toNat : Nat) : Int), b8 (((y 14).toNat : Nat) : Int), b8 (((y 15).toNat : Nat) : Int)] 1 Md.own none]
noncomputable def hPcT3 (x : Nat → Int) (po : Int) (y : Nat → UInt8) (Z : List UInt8) : AHeap := [cells (bys Z) 1 Md.own none]
noncomputable def hPcT4 (x : Nat → Int) (po : Int) (y : Nat → UInt8) (Z : List UInt8) : AHeap := [cells (adF true x) 17 Md.own none, cells [b8 6] 1 Md.own none, cells [b8 (((y 0).toNat : Nat) : Int), b8 (((y 1).toNat : Nat) : Int), b8 (((y 2).toNat : Nat) : Int), b8 (((y 3).toNat : Nat) : Int), b8 (((y 4).toNat : Nat) : Int), b8 (((y 5).toNat : Nat) : Int), b8 (((y 6).toNat : Nat) : Int), b8 (((y 7).toNat : Nat) : Int), b8 (((y 8).toNat : Nat) : Int), b8 (((y 9).toNat : Nat) : Int), b8 (((y 10).toNat : Nat) : Int), b8 (((y 11).toNat : Nat) : Int), b8 (((y 12).toNat : Nat) : Int), b8 (((y 13).toNat : Nat) : Int), b8 (((y 14).toNat : Nat) : Int), b8 (((y 15).toNat : Nat) : Int)] 1 Md.own none, cells [AV.sl (some (1, 0)) 1 0 false, AV.sl (some (2, 0)) [y 0, y 1, y 2, y 3, y 4, y 5, y 6, y 7, y 8, y 9, y 10, y 11, y 12, y 13, y 14, y 15].length 0 false] 1 Md.own none, cells [b8 6, b8 (((y 0).toNat : Nat) : Int), b8 (((y 1).toNat : Nat) : Int), b8 (((y 2).toNat : Nat) : Int), b8 (((y 3).toNat : Nat) : Int), b8 (((y 4).toNat : Nat) : Int), b8 (((y 5).toNat : Nat) : Int), b8 (((y 6).toNat : Nat) : Int), b8 (((y 7).toNat : Nat) : Int), b8 (((y 8).toNat : Nat) : Int), b8 (((y 9).toNat : Nat) : Int), b8 (((y 10).toNat : Nat) : Int), b8 (((y 11).toNat : Nat) : Int), b8 (((y 12).toNat : Nat) : Int), b8 (((y 13).toNat : Nat) : Int), b8 (((y 14).toNat : Nat) : Int), b8 (((y 15).toNat : Nat) : Int)] 1 Md.own none, cells (bys Z) 1 Md.own none]
theorem nfPcT {R : Type} (x : Nat → Int) (po : Int) (y : Nat → UInt8) (Z : List UInt8) (K : AV → AHeap → Option R) :
 qrun Try.prog (tPc [y 0, y 1, y 2, y 3, y 4, y 5, y 6, y 7, y 8, y 9, y 10, y 11, y 12, y 13, y 14, y 15] Z) 100 4 [] [] 27 [.agg (adF true x), .int .u16 po] [] K =
 (if cdec (Says eBytes [AV.agg (adF true x)] (hPcT0 x po y Z) (AV.sl (some (2, 0)) [y 0, y 1, y 2, y 3, y 4, y 5, y 6, y 7, y 8, y 9, y 10, y 11, y 12, y 13, y 14, y 15].length 0 false) (hPcT1 x po y Z)) = true then
 (if cdec (Says eApp16 [AV.sl (some (4, 0)) (1 + [y 0, y 1, y 2, y 3, y 4, y 5, y 6, y 7, y 8, y 9, y 10, y 11, y 12, y 13, y 14, y 15].length) (roomOf (i64.wrap (i64.wrap (1 + ↑[y 0, y 1, y 2, y 3, y 4, y 5, y 6, y 7, y 8, y 9, y 10, y 11, y 12, y 13, y 14, y 15].length) - 0)).toNat 0 0 false 0 false - 1 - [y 0, y 1, y 2, y 3, y 4, y 5, y 6, y 7, y 8, y 9, y 10, y 11, y 12, y 13, y 14, y 15].length) false, int u16 po] (hPcT2 x po y Z) (AV.sl (some (5, 0)) Z.length 0 false) (hPcT3 x po y Z)) = true then
 K (AV.sl (some (5, 0)) Z.length 0 false) ((hPcT4 x po y Z))
 else none) else none) := by
  kernel_rfl


noncomputable def tFr (c : List AV) (po : Int) : Tbl := [(32, entF (eSay (eFrom 0 2) [(2, .tup [.agg c, .int .i64 0], [])])), (33, entF (eSay eGet16 [(2, .tup [.int .u16 po, .bool true], [])]))]
theorem tFrOk (c : List AV) (po : Int) : ∀ f E, (tFr c po).find f = some E → SoundE Try.prog f E := find_cons (sSay sAFrom _) (find_cons (sSay sGet16 _) (find_nil _))
noncomputable def hFrFF0 (l : List UInt8) (x : Nat → Int) (po : Int) : AHeap := [cells (bys l) 1 Md.far none, ABlk.cells adZ 17 Md.own none]
noncomputable def hFrFF1 (l : List UInt8) (x : Nat → Int) (po : Int) : AHeap := []
noncomputable def hFrFF2 (l : List UInt8) (x : Nat → Int) (po : Int) : AHeap := [cells (bys l) 1 Md.far none, cells (adF false x) 17 Md.own none]
theorem nfFrFF {R : Type} (l : List UInt8) (x : Nat → Int) (po : Int) (K : AV → AHeap → Option R) :
 qrun Try.prog (tFr (adF false x) po) 100 4 [(14, .bool false), (33, .bool false)] [] 22 [slB 0 l] [farB l] K =
 (if decide ((l.length : Int) > 0) = true then
 (if Int.ofNat 0 ≤ Int.ofNat 0 ∧ 0 < (l.length : Int) then
 (if isIntV u8 (bys l)[0]? = true then
 (if (intV (bys l)[0]? == 6) = false then
 (if decide ((l.length : Int) < 7) = true then
 none
 else (if Int.ofNat 0 ≤ Int.ofNat 0 ∧ 0 < (l.length : Int) then
 (if isIntV u8 (bys l)[0]? = true then
 (if (intV (bys l)[0]? != 4) = true then
 (if Int.ofNat 0 ≤ Int.ofNat 0 ∧ 0 < (l.length : Int) then
 (if isIntV u8 (bys l)[0]? = true then
 (if (intV (bys l)[0]? != 6) = false then
 (if Int.ofNat 0 ≤ Int.ofNat 5 ∧ 5 ≤ (((capOf l.length 0 false) : Nat) : Int) then
 (if cdec (Says (eFrom 0 2) [AV.sl (some (0, 1)) 4 (roomOf l.length 0 1 false 5 false) false] (hFrFF0 l x po) (AV.tup [AV.agg (adF false x), int i64 0]) (hFrFF1 l x po)) = true then
 (if cdec (Says eGet16 [AV.sl (some (0, 0)) l.length 0 false, int i64 5] (hFrFF2 l x po) (AV.tup [int u16 po, AV.bool true]) (hFrFF1 l x po)) = true then
 K (AV.tup [AV.agg (adF false x), int u16 po, int i64 7]) ((hFrFF2 l x po))
 else none) else none) else none) else none) else none) else none)
 else (if Int.ofNat 0 ≤ Int.ofNat 5 ∧ 5 ≤ (((capOf l.length 0 false) : Nat) : Int) then
 (if cdec (Says (eFrom 0 2) [AV.sl (some (0, 1)) 4 (roomOf l.length 0 1 false 5 false) false] (hFrFF0 l x po) (AV.tup [AV.agg (adF false x), int i64 0]) (hFrFF1 l x po)) = true then
 (if cdec (Says eGet16 [AV.sl (some (0, 0)) l.length 0 false, int i64 5] (hFrFF2 l x po) (AV.tup [int u16 po, AV.bool true]) (hFrFF1 l x po)) = true then
 K (AV.tup [AV.agg (adF false x), int u16 po, int i64 7]) ((hFrFF2 l x po))
 else none) else none) else none))
 else none) else none))
 else none) else none) else none)
 else (if decide ((l.length : Int) < 7) = true then
 none
 else (if Int.ofNat 0 ≤ Int.ofNat 0 ∧ 0 < (l.length : Int) then
 (if isIntV u8 (bys l)[0]? = true then
 (if (intV (bys l)[0]? != 4) = true then
 (if Int.ofNat 0 ≤ Int.ofNat 0 ∧ 0 < (l.length : Int) then
 (if isIntV u8 (bys l)[0]? = true then
 (if (intV (bys l)[0]? != 6) = false then
 (if Int.ofNat 0 ≤ Int.ofNat 5 ∧ 5 ≤ (((capOf l.length 0 false) : Nat) : Int) then
 (if cdec (Says (eFrom 0 2) [AV.sl (some (0, 1)) 4 (roomOf l.length 0 1 false 5 false) false] (hFrFF0 l x po) (AV.tup [AV.agg (adF false x), int i64 0]) (hFrFF1 l x po)) = true then
 (if cdec (Says eGet16 [AV.sl (some (0, 0)) l.length 0 false, int i64 5] (hFrFF2 l x po) (AV.tup [int u16 po, AV.bool true]) (hFrFF1 l x po)) = true then
 K (AV.tup [AV.agg (adF false x), int u16 po, int i64 7]) ((hFrFF2 l x po))
 else none) else none) else none) else none) else none) else none)
 else (if Int.ofNat 0 ≤ Int.ofNat 5 ∧ 5 ≤ (((capOf l.length 0 false) : Nat) : Int) then
 (if cdec (Says (eFrom 0 2) [AV.sl (some (0, 1)) 4 (roomOf l.length 0 1 false 5 false) false] (hFrFF0 l x po) (AV.tup [AV.agg (adF false x), int i64 0]) (hFrFF1 l x po)) = true then
 (if cdec (Says eGet16 [AV.sl (some (0, 0)) l.length 0 false, int i64 5] (hFrFF2 l x po) (AV.tup [int u16 po, AV.bool true]) (hFrFF1 l x po)) = true then
 K (AV.tup [AV.agg (adF false x), int u16 po, int i64 7]) ((hFrFF2 l x po))
 else none) else none) else none))
 else none) else none))) := by
  kernel_rfl

noncomputable def hFrFT0 (l : List UInt8) : AHeap := [cells (bys l) 1 Md.far none, ABlk.cells adZ 17 Md.own none]
theorem nfFrFT {R : Type} (l : List UInt8) (K : AV → AHeap → Option R) :
 qrun Try.prog (tFr [] 0) 100 4 [(14, .bool false), (33, .bool true)] [] 22 [slB 0 l] [farB l] K =
 (if decide ((l.length : Int) > 0) = true then
 (if Int.ofNat 0 ≤ Int.ofNat 0 ∧ 0 < (l.length : Int) then
 (if isIntV u8 (bys l)[0]? = true then
 (if (intV (bys l)[0]? == 6) = false then
 (if decide ((l.length : Int) < 7) = true then
 K (AV.tup [AV.agg adZ, int u16 0, int i64 0]) ((hFrFT0 l))
 else (if Int.ofNat 0 ≤ Int.ofNat 0 ∧ 0 < (l.length : Int) then
 (if isIntV u8 (bys l)[0]? = true then
 (if (intV (bys l)[0]? != 4) = true then
 (if Int.ofNat 0 ≤ Int.ofNat 0 ∧ 0 < (l.length : Int) then
 (if isIntV u8 (bys l)[0]? = true then
 (if (intV (bys l)[0]? != 6) = true then
 K (AV.tup [AV.agg adZ, int u16 0, int i64 0]) ((hFrFT0 l))
 else none) else none) else none) else none) else none) else none))
 else none) else none) else none)
 else (if decide ((l.length : Int) < 7) = true then
 K (AV.tup [AV.agg adZ, int u16 0, int i64 0]) ((hFrFT0 l))
 else (if Int.ofNat 0 ≤ Int.ofNat 0 ∧ 0 < (l.length : Int) then
 (if isIntV u8 (bys l)[0]? = true then
 (if (intV (bys l)[0]? != 4) = true then
 (if Int.ofNat 0 ≤ Int.ofNat 0 ∧ 0 < (l.length : Int) then
 (if isIntV u8 (bys l)[0]? = true then
 (if (intV (bys l)[0]? != 6) = true then
 K (AV.tup [AV.agg adZ, int u16 0, int i64 0]) ((hFrFT0 l))
 else none) else none) else none) else none) else none) else none))) := by
  kernel_rfl

noncomputable def hFrTF0 (l : List UInt8) (x : Nat → Int) (po : Int) : AHeap := [cells (bys l) 1 Md.far none, ABlk.cells adZ 17 Md.own none]
noncomputable def hFrTF1 (l : List UInt8) (x : Nat → Int) (po : Int) : AHeap := []
noncomputable def hFrTF2 (l : List UInt8) (x : Nat → Int) (po : Int) : AHeap := [cells (bys l) 1 Md.far none, cells (adF true x) 17 Md.own none]
theorem nfFrTF {R : Type} (l : List UInt8) (x : Nat → Int) (po : Int) (K : AV → AHeap → Option R) :
 qrun Try.prog (tFr (adF true x) po) 100 4 [(14, .bool true), (33, .bool false)] [] 22 [slB 0 l] [farB l] K =
 (if decide ((l.length : Int) > 0) = true then
 (if Int.ofNat 0 ≤ Int.ofNat 0 ∧ 0 < (l.length : Int) then
 (if isIntV u8 (bys l)[0]? = true then
 (if (intV (bys l)[0]? == 6) = true then
 (if decide ((l.length : Int) < 19) = true then
 none
 else (if Int.ofNat 0 ≤ Int.ofNat 0 ∧ 0 < (l.length : Int) then
 (if isIntV u8 (bys l)[0]? = true then
 (if (intV (bys l)[0]? != 4) = true then
 (if Int.ofNat 0 ≤ Int.ofNat 0 ∧ 0 < (l.length : Int) then
 (if isIntV u8 (bys l)[0]? = true then
 (if (intV (bys l)[0]? != 6) = false then
 (if Int.ofNat 0 ≤ Int.ofNat 17 ∧ 17 ≤ (((capOf l.length 0 false) : Nat) : Int) then
 (if cdec (Says (eFrom 0 2) [AV.sl (some (0, 1)) 16 (roomOf l.length 0 1 false 17 false) false] (hFrTF0 l x po) (AV.tup [AV.agg (adF true x), int i64 0]) (hFrTF1 l x po)) = true then
 (if cdec (Says eGet16 [AV.sl (some (0, 0)) l.length 0 false, int i64 17] (hFrTF2 l x po) (AV.tup [int u16 po, AV.bool true]) (hFrTF1 l x po)) = true then
 K (AV.tup [AV.agg (adF true x), int u16 po, int i64 19]) ((hFrTF2 l x po))
 else none) else none) else none) else none) else none) else none)
 else (if Int.ofNat 0 ≤ Int.ofNat 17 ∧ 17 ≤ (((capOf l.length 0 false) : Nat) : Int) then
 (if cdec (Says (eFrom 0 2) [AV.sl (some (0, 1)) 16 (roomOf l.length 0 1 false 17 false) false] (hFrTF0 l x po) (AV.tup [AV.agg (adF true x), int i64 0]) (hFrTF1 l x po)) = true then
 (if cdec (Says eGet16 [AV.sl (some (0, 0)) l.length 0 false, int i64 17] (hFrTF2 l x po) (AV.tup [int u16 po, AV.bool true]) (hFrTF1 l x po)) = true then
 K (AV.tup [AV.agg (adF true x), int u16 po, int i64 19]) ((hFrTF2 l x po))
 else none) else none) else none))
 else none) else none))
 else none) else none) else none) else none) := by
  kernel_rfl

noncomputable def hFrTT0 (l : List UInt8) : AHeap := [cells (bys l) 1 Md.far none, ABlk.cells adZ 17 Md.own none]
theorem nfFrTT {R : Type} (l : List UInt8) (K : AV → AHeap → Option R) :
 qrun Try.prog (tFr [] 0) 100 4 [(14, .bool true), (33, .bool true)] [] 22 [slB 0 l] [farB l] K =
 (if decide ((l.length : Int) > 0) = true then
 (if Int.ofNat 0 ≤ Int.ofNat 0 ∧ 0 < (l.length : Int) then
 (if isIntV u8 (bys l)[0]? = true then
 (if (intV (bys l)[0]? == 6) = true then
 (if decide ((l.length : Int) < 19) = true then
 K (AV.tup [AV.agg adZ, int u16 0, int i64 0]) ((hFrTT0 l))
 else (if Int.ofNat 0 ≤ Int.ofNat 0 ∧ 0 < (l.length : Int) then
 (if isIntV u8 (bys l)[0]? = true then
 (if (intV (bys l)[0]? != 4) = true then
 (if Int.ofNat 0 ≤ Int.ofNat 0 ∧ 0 < (l.length : Int) then
 (if isIntV u8 (bys l)[0]? = true then
 (if (intV (bys l)[0]? != 6) = true then
 K (AV.tup [AV.agg adZ, int u16 0, int i64 0]) ((hFrTT0 l))
 else none) else none) else none) else none) else none) else none))
 else none) else none) else none) else none) := by
  kernel_rfl


end Go.Proofs.Ytjlepcfeeicdfaa.L
