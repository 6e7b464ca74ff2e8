/- The reference's addr: rows. -/
import Derived.Test.YtjlepcfeeicdfaaDbK
set_option autoImplicit false
set_option maxRecDepth 100000
set_option linter.unusedVariables false
set_option linter.unusedSimpArgs false
namespace Go.Proofs.Ytjlepcfeeicdfaa.L
open Go Go.Abs
open Go.IntKind (u8 u16 u32 u64 i64)
open Go.Abs.AV (int)
open Go.Abs.ABlk (cells)

noncomputable def tAd (c : List AV) : Tbl := [(47, entF (eSay (eFrom 0 2) [(2, .tup [.agg c, .int .i64 0], [])]))]
theorem tAdOk (c : List AV) : ∀ f E, (tAd c).find f = some E → SoundE Try.prog f E := find_cons (sSay sRFrom _) (find_nil _)
noncomputable def hAdB0 (l : List UInt8) (i : Int) : AHeap := [cells (bys l) 1 Md.far none, ABlk.cells adZ 17 Md.own none]
theorem nfAdB {R : Type} (l : List UInt8) (i : Int) (K : AV → AHeap → Option R) :
 qrun Try.prog (tAd []) 100 4 [(27, .bool true)] [] 40 [slB 0 l, .int .i64 i] [farB l] K =
 (if decide (i ≥ (l.length : Int)) = true then
 K (AV.tup [AV.agg adZ, int i64 0, AV.bool false]) ((hAdB0 l i))
 else (if 0 ≤ i ∧ i < (l.length : Int) then
 (if isIntV u8 (bys l)[0 + i.toNat * 1]? = true then
 (if (intV (bys l)[0 + i.toNat * 1]? != 4) = true then
 (if 0 ≤ i ∧ i < (l.length : Int) then
 (if isIntV u8 (bys l)[0 + i.toNat * 1]? = true then
 (if (intV (bys l)[0 + i.toNat * 1]? != 6) = true then
 K (AV.tup [AV.agg adZ, int i64 0, AV.bool false]) ((hAdB0 l i))
 else none) else none) else none) else none) else none) else none)) := by
  kernel_rfl

noncomputable def hAdSF0 (l : List UInt8) (i : Int) : AHeap := [cells (bys l) 1 Md.far none, ABlk.cells adZ 17 Md.own none]
theorem nfAdSF {R : Type} (l : List UInt8) (i : Int) (K : AV → AHeap → Option R) :
 qrun Try.prog (tAd []) 100 4 [(27, .bool false), (33, .bool false), (40, .bool true)] [] 40 [slB 0 l, .int .i64 i] [farB l] K =
 (if decide (i ≥ (l.length : Int)) = true then
 none
 else (if 0 ≤ i ∧ i < (l.length : Int) then
 (if isIntV u8 (bys l)[0 + i.toNat * 1]? = true then
 (if (intV (bys l)[0 + i.toNat * 1]? != 4) = true then
 (if 0 ≤ i ∧ i < (l.length : Int) then
 (if isIntV u8 (bys l)[0 + i.toNat * 1]? = true then
 (if (intV (bys l)[0 + i.toNat * 1]? != 6) = false then
 (if 0 ≤ i ∧ i < (l.length : Int) then
 (if isIntV u8 (bys l)[0 + i.toNat * 1]? = true then
 (if (intV (bys l)[0 + i.toNat * 1]? == 6) = false then
 (if decide (i64.wrap (i64.wrap (i + 1) + 4) > (l.length : Int)) = true then
 K (AV.tup [AV.agg adZ, int i64 0, AV.bool false]) ((hAdSF0 l i))
 else none) else none) else none) else none) else none) else none) else none)
 else (if 0 ≤ i ∧ i < (l.length : Int) then
 (if isIntV u8 (bys l)[0 + i.toNat * 1]? = true then
 (if (intV (bys l)[0 + i.toNat * 1]? == 6) = false then
 (if decide (i64.wrap (i64.wrap (i + 1) + 4) > (l.length : Int)) = true then
 K (AV.tup [AV.agg adZ, int i64 0, AV.bool false]) ((hAdSF0 l i))
 else none) else none) else none) else none))
 else none) else none)) := by
  kernel_rfl

noncomputable def hAdYF0 (l : List UInt8) (i : Int) (x : Nat → Int) : AHeap := [cells (bys l) 1 Md.far none, ABlk.cells adZ 17 Md.own none]
noncomputable def hAdYF1 (l : List UInt8) (i : Int) (x : Nat → Int) : AHeap := []
noncomputable def hAdYF2 (l : List UInt8) (i : Int) (x : Nat → Int) : AHeap := [cells (bys l) 1 Md.far none, cells (adF false x) 17 Md.own none, cells (adF false x) 17 Md.own none]
theorem nfAdYF {R : Type} (l : List UInt8) (i : Int) (x : Nat → Int) (K : AV → AHeap → Option R) :
 qrun Try.prog (tAd (adF false x)) 100 4 [(27, .bool false), (33, .bool false), (40, .bool false)] [] 40 [slB 0 l, .int .i64 i] [farB l] K =
 (if decide (i ≥ (l.length : Int)) = true then
 none
 else (if 0 ≤ i ∧ i < (l.length : Int) then
 (if isIntV u8 (bys l)[0 + i.toNat * 1]? = true then
 (if (intV (bys l)[0 + i.toNat * 1]? != 4) = true then
 (if 0 ≤ i ∧ i < (l.length : Int) then
 (if isIntV u8 (bys l)[0 + i.toNat * 1]? = true then
 (if (intV (bys l)[0 + i.toNat * 1]? != 6) = false then
 (if 0 ≤ i ∧ i < (l.length : Int) then
 (if isIntV u8 (bys l)[0 + i.toNat * 1]? = true then
 (if (intV (bys l)[0 + i.toNat * 1]? == 6) = false then
 (if decide (i64.wrap (i64.wrap (i + 1) + 4) > (l.length : Int)) = false then
 (if 0 ≤ i64.wrap (i64.wrap (i + 1) + 4) ∧ i64.wrap (i64.wrap (i + 1) + 4) ≤ (((capOf l.length 0 false) : Nat) : Int) then
 (if 0 ≤ i64.wrap (i + 1) ∧ i64.wrap (i + 1) ≤ i64.wrap (i64.wrap (i + 1) + 4) then
 (if cdec (Says (eFrom 0 2) [AV.sl (some (0, 0 + (i64.wrap (i + 1)).toNat * 1)) ((i64.wrap (i64.wrap (i + 1) + 4)).toNat - (i64.wrap (i + 1)).toNat) (roomOf l.length 0 (i64.wrap (i + 1)).toNat (some (i64.wrap (i64.wrap (i + 1) + 4))).isNone (i64.wrap (i64.wrap (i + 1) + 4)).toNat false) false] (hAdYF0 l i x) (AV.tup [AV.agg (adF false x), int i64 0]) (hAdYF1 l i x)) = true then
 K (AV.tup [AV.agg (adF false x), int i64 (i64.wrap (i64.wrap (i + 1) + 4)), AV.bool true]) ((hAdYF2 l i x))
 else none) else none) else none) else none) else none) else none) else none) else none) else none) else none)
 else (if 0 ≤ i ∧ i < (l.length : Int) then
 (if isIntV u8 (bys l)[0 + i.toNat * 1]? = true then
 (if (intV (bys l)[0 + i.toNat * 1]? == 6) = false then
 (if decide (i64.wrap (i64.wrap (i + 1) + 4) > (l.length : Int)) = false then
 (if 0 ≤ i64.wrap (i64.wrap (i + 1) + 4) ∧ i64.wrap (i64.wrap (i + 1) + 4) ≤ (((capOf l.length 0 false) : Nat) : Int) then
 (if 0 ≤ i64.wrap (i + 1) ∧ i64.wrap (i + 1) ≤ i64.wrap (i64.wrap (i + 1) + 4) then
 (if cdec (Says (eFrom 0 2) [AV.sl (some (0, 0 + (i64.wrap (i + 1)).toNat * 1)) ((i64.wrap (i64.wrap (i + 1) + 4)).toNat - (i64.wrap (i + 1)).toNat) (roomOf l.length 0 (i64.wrap (i + 1)).toNat (some (i64.wrap (i64.wrap (i + 1) + 4))).isNone (i64.wrap (i64.wrap (i + 1) + 4)).toNat false) false] (hAdYF0 l i x) (AV.tup [AV.agg (adF false x), int i64 0]) (hAdYF1 l i x)) = true then
 K (AV.tup [AV.agg (adF false x), int i64 (i64.wrap (i64.wrap (i + 1) + 4)), AV.bool true]) ((hAdYF2 l i x))
 else none) else none) else none) else none) else none) else none) else none))
 else none) else none)) := by
  kernel_rfl

noncomputable def hAdST0 (l : List UInt8) (i : Int) : AHeap := [cells (bys l) 1 Md.far none, ABlk.cells adZ 17 Md.own none]
theorem nfAdST {R : Type} (l : List UInt8) (i : Int) (K : AV → AHeap → Option R) :
 qrun Try.prog (tAd []) 100 4 [(27, .bool false), (33, .bool true), (40, .bool true)] [] 40 [slB 0 l, .int .i64 i] [farB l] K =
 (if decide (i ≥ (l.length : Int)) = true then
 none
 else (if 0 ≤ i ∧ i < (l.length : Int) then
 (if isIntV u8 (bys l)[0 + i.toNat * 1]? = true then
 (if (intV (bys l)[0 + i.toNat * 1]? != 4) = true then
 (if 0 ≤ i ∧ i < (l.length : Int) then
 (if isIntV u8 (bys l)[0 + i.toNat * 1]? = true then
 (if (intV (bys l)[0 + i.toNat * 1]? != 6) = false then
 (if 0 ≤ i ∧ i < (l.length : Int) then
 (if isIntV u8 (bys l)[0 + i.toNat * 1]? = true then
 (if (intV (bys l)[0 + i.toNat * 1]? == 6) = true then
 (if decide (i64.wrap (i64.wrap (i + 1) + 16) > (l.length : Int)) = true then
 K (AV.tup [AV.agg adZ, int i64 0, AV.bool false]) ((hAdST0 l i))
 else none) else none) else none) else none) else none) else none) else none)
 else (if 0 ≤ i ∧ i < (l.length : Int) then
 (if isIntV u8 (bys l)[0 + i.toNat * 1]? = true then
 (if (intV (bys l)[0 + i.toNat * 1]? == 6) = true then
 (if decide (i64.wrap (i64.wrap (i + 1) + 16) > (l.length : Int)) = true then
 K (AV.tup [AV.agg adZ, int i64 0, AV.bool false]) ((hAdST0 l i))
 else none) else none) else none) else none))
 else none) else none)) := by
  kernel_rfl

noncomputable def hAdYT0 (l : List UInt8) (i : Int) (x : Nat → Int) : AHeap := [cells (bys l) 1 Md.far none, ABlk.cells adZ 17 Md.own none]
noncomputable def hAdYT1 (l : List UInt8) (i : Int) (x : Nat → Int) : AHeap := []
noncomputable def hAdYT2 (l : List UInt8) (i : Int) (x : Nat → Int) : AHeap := [cells (bys l) 1 Md.far none, cells (adF true x) 17 Md.own none, cells (adF true x) 17 Md.own none]
theorem nfAdYT {R : Type} (l : List UInt8) (i : Int) (x : Nat → Int) (K : AV → AHeap → Option R) :
 qrun Try.prog (tAd (adF true x)) 100 4 [(27, .bool false), (33, .bool true), (40, .bool false)] [] 40 [slB 0 l, .int .i64 i] [farB l] K =
 (if decide (i ≥ (l.length : Int)) = true then
 none
 else (if 0 ≤ i ∧ i < (l.length : Int) then
 (if isIntV u8 (bys l)[0 + i.toNat * 1]? = true then
 (if (intV (bys l)[0 + i.toNat * 1]? != 4) = true then
 (if 0 ≤ i ∧ i < (l.length : Int) then
 (if isIntV u8 (bys l)[0 + i.toNat * 1]? = true then
 (if (intV (bys l)[0 + i.toNat * 1]? != 6) = false then
 (if 0 ≤ i ∧ i < (l.length : Int) then
 (if isIntV u8 (bys l)[0 + i.toNat * 1]? = true then
 (if (intV (bys l)[0 + i.toNat * 1]? == 6) = true then
 (if decide (i64.wrap (i64.wrap (i + 1) + 16) > (l.length : Int)) = false then
 (if 0 ≤ i64.wrap (i64.wrap (i + 1) + 16) ∧ i64.wrap (i64.wrap (i + 1) + 16) ≤ (((capOf l.length 0 false) : Nat) : Int) then
 (if 0 ≤ i64.wrap (i + 1) ∧ i64.wrap (i + 1) ≤ i64.wrap (i64.wrap (i + 1) + 16) then
 (if cdec (Says (eFrom 0 2) [AV.sl (some (0, 0 + (i64.wrap (i + 1)).toNat * 1)) ((i64.wrap (i64.wrap (i + 1) + 16)).toNat - (i64.wrap (i + 1)).toNat) (roomOf l.length 0 (i64.wrap (i + 1)).toNat (some (i64.wrap (i64.wrap (i + 1) + 16))).isNone (i64.wrap (i64.wrap (i + 1) + 16)).toNat false) false] (hAdYT0 l i x) (AV.tup [AV.agg (adF true x), int i64 0]) (hAdYT1 l i x)) = true then
 K (AV.tup [AV.agg (adF true x), int i64 (i64.wrap (i64.wrap (i + 1) + 16)), AV.bool true]) ((hAdYT2 l i x))
 else none) else none) else none) else none) else none) else none) else none) else none) else none) else none)
 else (if 0 ≤ i ∧ i < (l.length : Int) then
 (if isIntV u8 (bys l)[0 + i.toNat * 1]? = true then
 (if (intV (bys l)[0 + i.toNat * 1]? == 6) = true then
 (if decide (i64.wrap (i64.wrap (i + 1) + 16) > (l.length : Int)) = false then
 (if 0 ≤ i64.wrap (i64.wrap (i + 1) + 16) ∧ i64.wrap (i64.wrap (i + 1) + 16) ≤ (((capOf l.length 0 false) : Nat) : Int) then
 (if 0 ≤ i64.wrap (i + 1) ∧ i64.wrap (i + 1) ≤ i64.wrap (i64.wrap (i + 1) + 16) then
 (if cdec (Says (eFrom 0 2) [AV.sl (some (0, 0 + (i64.wrap (i + 1)).toNat * 1)) ((i64.wrap (i64.wrap (i + 1) + 16)).toNat - (i64.wrap (i + 1)).toNat) (roomOf l.length 0 (i64.wrap (i + 1)).toNat (some (i64.wrap (i64.wrap (i + 1) + 16))).isNone (i64.wrap (i64.wrap (i + 1) + 16)).toNat false) false] (hAdYT0 l i x) (AV.tup [AV.agg (adF true x), int i64 0]) (hAdYT1 l i x)) = true then
 K (AV.tup [AV.agg (adF true x), int i64 (i64.wrap (i64.wrap (i + 1) + 16)), AV.bool true]) ((hAdYT2 l i x))
 else none) else none) else none) else none) else none) else none) else none))
 else none) else none)) := by
  kernel_rfl


end Go.Proofs.Ytjlepcfeeicdfaa.L
