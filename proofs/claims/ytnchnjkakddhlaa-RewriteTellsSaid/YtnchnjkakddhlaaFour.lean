/- ipfour's Read, and the reference's Four. -/
import Derived.Test.YtnchnjkakddhlaaOctB
import Derived.Test.YtnchnjkakddhlaaAddrB
set_option autoImplicit false
set_option maxRecDepth 100000
set_option linter.unusedVariables false
set_option linter.unusedSimpArgs false
namespace Go.Proofs.Ytnchnjkakddhlaa.L
open Go Go.Abs
open Go.IntKind (u8 u16 u32 u64 i64)
open Go.Abs.AV (int)
open Go.Abs.ABlk (cells)

noncomputable def tFour : Tbl := [(43, entF eGet16), (64, entF (eFrom 0 2)), (65, entF eSum)]
theorem tFourOk : ∀ f E, tFour.find f = some E → SoundE Try.prog f E := find_cons sGet16 (find_cons sAFrom (find_cons sSum (find_nil _)))
noncomputable def tRFour : Tbl := [(50, entF eBe16), (54, entF (eFrom 0 2)), (30, entF eRSum)]
theorem tRFourOk : ∀ f E, tRFour.find f = some E → SoundE Try.prog f E := find_cons sBe16 (find_cons sRFrom (find_cons sRSum (find_nil _)))

noncomputable def hFour0 (l : List UInt8) : AHeap := [cells (bys l) 1 Md.far none, cells [int i64 0, int i64 0, int u8 0, AV.bool false, int u8 0, int u8 0, int u8 0, int u8 0, int u8 0, int u8 0, int u8 0, int u8 0, int u8 0, int u8 0, int u8 0, int u8 0, int u8 0, int u8 0, int u8 0, int u8 0, AV.bool false, int u8 0, int u8 0, int u8 0, int u8 0, int u8 0, int u8 0, int u8 0, int u8 0, int u8 0, int u8 0, int u8 0, int u8 0, int u8 0, int u8 0, int u8 0, int u8 0] 37 Md.own none]
noncomputable def hFour1 (l : List UInt8) : AHeap := [cells (bys l) 1 Md.far none, cells [int i64 0, int i64 0, int u8 0, AV.bool false, int u8 0, int u8 0, int u8 0, int u8 0, int u8 0, int u8 0, int u8 0, int u8 0, int u8 0, int u8 0, int u8 0, int u8 0, int u8 0, int u8 0, int u8 0, int u8 0, AV.bool false, int u8 0, int u8 0, int u8 0, int u8 0, int u8 0, int u8 0, int u8 0, int u8 0, int u8 0, int u8 0, int u8 0, int u8 0, int u8 0, int u8 0, int u8 0, int u8 0] 37 Md.own none, cells [AV.bool false, int u8 0, int u8 0, int u8 0, int u8 0, int u8 0, int u8 0, int u8 0, int u8 0, int u8 0, int u8 0, int u8 0, int u8 0, int u8 0, int u8 0, int u8 0, int u8 0] 17 Md.own none]
noncomputable def hFour2 (l : List UInt8) : AHeap := [cells (bys l) 1 Md.far none, cells [int i64 0, int i64 0, int u8 0, AV.bool false, int u8 0, int u8 0, int u8 0, int u8 0, int u8 0, int u8 0, int u8 0, int u8 0, int u8 0, int u8 0, int u8 0, int u8 0, int u8 0, int u8 0, int u8 0, int u8 0, AV.bool false, int u8 0, int u8 0, int u8 0, int u8 0, int u8 0, int u8 0, int u8 0, int u8 0, int u8 0, int u8 0, int u8 0, int u8 0, int u8 0, int u8 0, int u8 0, int u8 0] 37 Md.own none, cells [AV.bool false, int u8 (byt (bOf (hFour1 l) (AV.sl (some (0, 12)) 4 (roomOf l.length 0 12 false 16 false) false)) 0), int u8 (byt (bOf (hFour1 l) (AV.sl (some (0, 12)) 4 (roomOf l.length 0 12 false 16 false) false)) 1), int u8 (byt (bOf (hFour1 l) (AV.sl (some (0, 12)) 4 (roomOf l.length 0 12 false 16 false) false)) 2), int u8 (byt (bOf (hFour1 l) (AV.sl (some (0, 12)) 4 (roomOf l.length 0 12 false 16 false) false)) 3), int u8 0, int u8 0, int u8 0, int u8 0, int u8 0, int u8 0, int u8 0, int u8 0, int u8 0, int u8 0, int u8 0, int u8 0] 17 Md.own none, cells [AV.bool false, int u8 (byt (bOf (hFour1 l) (AV.sl (some (0, 12)) 4 (roomOf l.length 0 12 false 16 false) false)) 0), int u8 (byt (bOf (hFour1 l) (AV.sl (some (0, 12)) 4 (roomOf l.length 0 12 false 16 false) false)) 1), int u8 (byt (bOf (hFour1 l) (AV.sl (some (0, 12)) 4 (roomOf l.length 0 12 false 16 false) false)) 2), int u8 (byt (bOf (hFour1 l) (AV.sl (some (0, 12)) 4 (roomOf l.length 0 12 false 16 false) false)) 3), int u8 0, int u8 0, int u8 0, int u8 0, int u8 0, int u8 0, int u8 0, int u8 0, int u8 0, int u8 0, int u8 0, int u8 0] 17 Md.own none, cells [AV.bool false, int u8 0, int u8 0, int u8 0, int u8 0, int u8 0, int u8 0, int u8 0, int u8 0, int u8 0, int u8 0, int u8 0, int u8 0, int u8 0, int u8 0, int u8 0, int u8 0] 17 Md.own none]
noncomputable def hFour3 (l : List UInt8) : AHeap := [cells (bys l) 1 Md.far none, cells [int i64 (i64.wrap (i64.wrap (abits u8 (· &&& ·) (intV (bys l)[0]?) 15) * 4)), int i64 (i64.wrap (if Int.ofNat 0 ≤ Int.ofNat 2 ∧ 4 ≤ (((bOf (hFour0 l) (AV.sl (some (0, 0)) l.length 0 false)).length : Nat) : Int) then numAt (bOf (hFour0 l) (AV.sl (some (0, 0)) l.length 0 false)) 2 2 else 0)), int u8 (intV (bys l)[9]?), AV.bool false, int u8 (byt (bOf (hFour1 l) (AV.sl (some (0, 12)) 4 (roomOf l.length 0 12 false 16 false) false)) 0), int u8 (byt (bOf (hFour1 l) (AV.sl (some (0, 12)) 4 (roomOf l.length 0 12 false 16 false) false)) 1), int u8 (byt (bOf (hFour1 l) (AV.sl (some (0, 12)) 4 (roomOf l.length 0 12 false 16 false) false)) 2), int u8 (byt (bOf (hFour1 l) (AV.sl (some (0, 12)) 4 (roomOf l.length 0 12 false 16 false) false)) 3), int u8 0, int u8 0, int u8 0, int u8 0, int u8 0, int u8 0, int u8 0, int u8 0, int u8 0, int u8 0, int u8 0, int u8 0, AV.bool false, int u8 (byt (bOf (hFour2 l) (AV.sl (some (0, 16)) 4 (roomOf l.length 0 16 false 20 false) false)) 0), int u8 (byt (bOf (hFour2 l) (AV.sl (some (0, 16)) 4 (roomOf l.length 0 16 false 20 false) false)) 1), int u8 (byt (bOf (hFour2 l) (AV.sl (some (0, 16)) 4 (roomOf l.length 0 16 false 20 false) false)) 2), int u8 (byt (bOf (hFour2 l) (AV.sl (some (0, 16)) 4 (roomOf l.length 0 16 false 20 false) false)) 3), int u8 0, int u8 0, int u8 0, int u8 0, int u8 0, int u8 0, int u8 0, int u8 0, int u8 0, int u8 0, int u8 0, int u8 0] 37 Md.own none, cells [AV.bool false, int u8 (byt (bOf (hFour1 l) (AV.sl (some (0, 12)) 4 (roomOf l.length 0 12 false 16 false) false)) 0), int u8 (byt (bOf (hFour1 l) (AV.sl (some (0, 12)) 4 (roomOf l.length 0 12 false 16 false) false)) 1), int u8 (byt (bOf (hFour1 l) (AV.sl (some (0, 12)) 4 (roomOf l.length 0 12 false 16 false) false)) 2), int u8 (byt (bOf (hFour1 l) (AV.sl (some (0, 12)) 4 (roomOf l.length 0 12 false 16 false) false)) 3), int u8 0, int u8 0, int u8 0, int u8 0, int u8 0, int u8 0, int u8 0, int u8 0, int u8 0, int u8 0, int u8 0, int u8 0] 17 Md.own none, cells [AV.bool false, int u8 (byt (bOf (hFour1 l) (AV.sl (some (0, 12)) 4 (roomOf l.length 0 12 false 16 false) false)) 0), int u8 (byt (bOf (hFour1 l) (AV.sl (some (0, 12)) 4 (roomOf l.length 0 12 false 16 false) false)) 1), int u8 (byt (bOf (hFour1 l) (AV.sl (some (0, 12)) 4 (roomOf l.length 0 12 false 16 false) false)) 2), int u8 (byt (bOf (hFour1 l) (AV.sl (some (0, 12)) 4 (roomOf l.length 0 12 false 16 false) false)) 3), int u8 0, int u8 0, int u8 0, int u8 0, int u8 0, int u8 0, int u8 0, int u8 0, int u8 0, int u8 0, int u8 0, int u8 0] 17 Md.own none, cells [AV.bool false, int u8 (byt (bOf (hFour2 l) (AV.sl (some (0, 16)) 4 (roomOf l.length 0 16 false 20 false) false)) 0), int u8 (byt (bOf (hFour2 l) (AV.sl (some (0, 16)) 4 (roomOf l.length 0 16 false 20 false) false)) 1), int u8 (byt (bOf (hFour2 l) (AV.sl (some (0, 16)) 4 (roomOf l.length 0 16 false 20 false) false)) 2), int u8 (byt (bOf (hFour2 l) (AV.sl (some (0, 16)) 4 (roomOf l.length 0 16 false 20 false) false)) 3), int u8 0, int u8 0, int u8 0, int u8 0, int u8 0, int u8 0, int u8 0, int u8 0, int u8 0, int u8 0, int u8 0, int u8 0] 17 Md.own none, cells [AV.bool false, int u8 (byt (bOf (hFour2 l) (AV.sl (some (0, 16)) 4 (roomOf l.length 0 16 false 20 false) false)) 0), int u8 (byt (bOf (hFour2 l) (AV.sl (some (0, 16)) 4 (roomOf l.length 0 16 false 20 false) false)) 1), int u8 (byt (bOf (hFour2 l) (AV.sl (some (0, 16)) 4 (roomOf l.length 0 16 false 20 false) false)) 2), int u8 (byt (bOf (hFour2 l) (AV.sl (some (0, 16)) 4 (roomOf l.length 0 16 false 20 false) false)) 3), int u8 0, int u8 0, int u8 0, int u8 0, int u8 0, int u8 0, int u8 0, int u8 0, int u8 0, int u8 0, int u8 0, int u8 0] 17 Md.own none]
theorem nfFour {R : Type} (l : List UInt8) (K : AV → Option R) :
 qrun Try.prog tFour 100 4 [] [] 42 [slB 0 l] [farB l] (fun v _ => K v) =
 (if decide ((l.length : Int) < 20) = true then
 K (AV.tup [AV.agg [int i64 0, int i64 0, int u8 0, AV.bool false, int u8 0, int u8 0, int u8 0, int u8 0, int u8 0, int u8 0, int u8 0, int u8 0, int u8 0, int u8 0, int u8 0, int u8 0, int u8 0, int u8 0, int u8 0, int u8 0, AV.bool false, int u8 0, int u8 0, int u8 0, int u8 0, int u8 0, int u8 0, int u8 0, int u8 0, int u8 0, int u8 0, int u8 0, int u8 0, int u8 0, int u8 0, int u8 0, int u8 0], int i64 1])
 else (if (bOk (hFour0 l) (AV.sl (some (0, 0)) l.length 0 false) && decide ((((nOf (AV.sl (some (0, 0)) l.length 0 false)) : Nat) : Int) < 9223372036854775000)) = true then
 (if (bOk (hFour0 l) (AV.sl (some (0, 0)) l.length 0 false) && decide ((((nOf (AV.sl (some (0, 0)) l.length 0 false)) : Nat) : Int) < 9223372036854775000)) = true then
 (if Int.ofNat 0 ≤ Int.ofNat 0 ∧ 0 < (l.length : Int) then
 (if isIntV u8 (bys l)[0]? = true then
 (if Int.ofNat 0 ≤ Int.ofNat 9 ∧ 9 < (l.length : Int) then
 (if isIntV u8 (bys l)[9]? = true then
 (if Int.ofNat 0 ≤ Int.ofNat 16 ∧ 16 ≤ (((capOf l.length 0 false) : Nat) : Int) then
 (if bOk (hFour1 l) (AV.sl (some (0, 12)) 4 (roomOf l.length 0 12 false 16 false) false) = true then
 (if Int.ofNat 0 ≤ Int.ofNat 20 ∧ 20 ≤ (((capOf l.length 0 false) : Nat) : Int) then
 (if bOk (hFour2 l) (AV.sl (some (0, 16)) 4 (roomOf l.length 0 16 false 20 false) false) = true then
 (if isIntV u8 (bys l)[0]? = true then
 (if (int u8 (intV (bys l)[0]?)).beq (int u8 (intV (bys l)[0]?)) = true then
 (if isIntV u8 (bys l)[0]? = true then
 (if (int u8 (intV (bys l)[0]?)).beq (int u8 (intV (bys l)[0]?)) = true then
 (if isIntV u8 (bys l)[9]? = true then
 (if (int u8 (intV (bys l)[9]?)).beq (int u8 (intV (bys l)[9]?)) = true then
 (if isIntV u8 (bys l)[9]? = true then
 (if (int u8 (intV (bys l)[9]?)).beq (int u8 (intV (bys l)[9]?)) = true then
 (if Int.ofNat 0 ≤ Int.ofNat 0 ∧ 0 < (l.length : Int) then
 (if isIntV u8 (bys l)[0]? = true then
 (if ((intV (bys l)[0]?).fdiv 16 != 4) = true then
 K (AV.tup [AV.agg [int i64 0, int i64 0, int u8 0, AV.bool false, int u8 0, int u8 0, int u8 0, int u8 0, int u8 0, int u8 0, int u8 0, int u8 0, int u8 0, int u8 0, int u8 0, int u8 0, int u8 0, int u8 0, int u8 0, int u8 0, AV.bool false, int u8 0, int u8 0, int u8 0, int u8 0, int u8 0, int u8 0, int u8 0, int u8 0, int u8 0, int u8 0, int u8 0, int u8 0, int u8 0, int u8 0, int u8 0, int u8 0], int i64 3])
 else (if decide (intV (some (int i64 (i64.wrap (i64.wrap (abits u8 (· &&& ·) (intV (bys l)[0]?) 15) * 4)))) < 20) = true then
 K (AV.tup [AV.agg [int i64 0, int i64 0, int u8 0, AV.bool false, int u8 0, int u8 0, int u8 0, int u8 0, int u8 0, int u8 0, int u8 0, int u8 0, int u8 0, int u8 0, int u8 0, int u8 0, int u8 0, int u8 0, int u8 0, int u8 0, AV.bool false, int u8 0, int u8 0, int u8 0, int u8 0, int u8 0, int u8 0, int u8 0, int u8 0, int u8 0, int u8 0, int u8 0, int u8 0, int u8 0, int u8 0, int u8 0, int u8 0], int i64 3])
 else (if decide (intV (some (int i64 (i64.wrap (if Int.ofNat 0 ≤ Int.ofNat 2 ∧ 4 ≤ (((bOf (hFour0 l) (AV.sl (some (0, 0)) l.length 0 false)).length : Nat) : Int) then numAt (bOf (hFour0 l) (AV.sl (some (0, 0)) l.length 0 false)) 2 2 else 0)))) < intV (some (int i64 (i64.wrap (i64.wrap (abits u8 (· &&& ·) (intV (bys l)[0]?) 15) * 4))))) = true then
 K (AV.tup [AV.agg [int i64 0, int i64 0, int u8 0, AV.bool false, int u8 0, int u8 0, int u8 0, int u8 0, int u8 0, int u8 0, int u8 0, int u8 0, int u8 0, int u8 0, int u8 0, int u8 0, int u8 0, int u8 0, int u8 0, int u8 0, AV.bool false, int u8 0, int u8 0, int u8 0, int u8 0, int u8 0, int u8 0, int u8 0, int u8 0, int u8 0, int u8 0, int u8 0, int u8 0, int u8 0, int u8 0, int u8 0, int u8 0], int i64 3])
 else (if decide ((l.length : Int) < intV (some (int i64 (i64.wrap (if Int.ofNat 0 ≤ Int.ofNat 2 ∧ 4 ≤ (((bOf (hFour0 l) (AV.sl (some (0, 0)) l.length 0 false)).length : Nat) : Int) then numAt (bOf (hFour0 l) (AV.sl (some (0, 0)) l.length 0 false)) 2 2 else 0))))) = true then
 K (AV.tup [AV.agg [int i64 0, int i64 0, int u8 0, AV.bool false, int u8 0, int u8 0, int u8 0, int u8 0, int u8 0, int u8 0, int u8 0, int u8 0, int u8 0, int u8 0, int u8 0, int u8 0, int u8 0, int u8 0, int u8 0, int u8 0, AV.bool false, int u8 0, int u8 0, int u8 0, int u8 0, int u8 0, int u8 0, int u8 0, int u8 0, int u8 0, int u8 0, int u8 0, int u8 0, int u8 0, int u8 0, int u8 0, int u8 0], int i64 1])
 else (if 0 ≤ intV (some (int i64 (i64.wrap (i64.wrap (abits u8 (· &&& ·) (intV (bys l)[0]?) 15) * 4)))) ∧ intV (some (int i64 (i64.wrap (i64.wrap (abits u8 (· &&& ·) (intV (bys l)[0]?) 15) * 4)))) ≤ (((capOf l.length 0 false) : Nat) : Int) then
 (if (bOk (hFour3 l) (AV.sl (some (0, 0)) ((intV (some (int i64 (i64.wrap (i64.wrap (abits u8 (· &&& ·) (intV (bys l)[0]?) 15) * 4))))).toNat - 0) (roomOf l.length 0 0 (some (intV (some (int i64 (i64.wrap (i64.wrap (abits u8 (· &&& ·) (intV (bys l)[0]?) 15) * 4)))))).isNone (intV (some (int i64 (i64.wrap (i64.wrap (abits u8 (· &&& ·) (intV (bys l)[0]?) 15) * 4))))).toNat false) false) && decide (nOf (AV.sl (some (0, 0)) ((intV (some (int i64 (i64.wrap (i64.wrap (abits u8 (· &&& ·) (intV (bys l)[0]?) 15) * 4))))).toNat - 0) (roomOf l.length 0 0 (some (intV (some (int i64 (i64.wrap (i64.wrap (abits u8 (· &&& ·) (intV (bys l)[0]?) 15) * 4)))))).isNone (intV (some (int i64 (i64.wrap (i64.wrap (abits u8 (· &&& ·) (intV (bys l)[0]?) 15) * 4))))).toNat false) false) ≤ 70368744177664 ∧ Int.ofNat 0 ≤ Int.ofNat 0 ∧ Int.ofNat 0 < Int.ofNat 4294967296)) = true then
 (if (abits u16 (· ^^^ ·) 65535 (sumI (bOf (hFour3 l) (AV.sl (some (0, 0)) ((intV (some (int i64 (i64.wrap (i64.wrap (abits u8 (· &&& ·) (intV (bys l)[0]?) 15) * 4))))).toNat - 0) (roomOf l.length 0 0 (some (intV (some (int i64 (i64.wrap (i64.wrap (abits u8 (· &&& ·) (intV (bys l)[0]?) 15) * 4)))))).isNone (intV (some (int i64 (i64.wrap (i64.wrap (abits u8 (· &&& ·) (intV (bys l)[0]?) 15) * 4))))).toNat false) false)) 0) != 0) = true then
 K (AV.tup [AV.agg [int i64 0, int i64 0, int u8 0, AV.bool false, int u8 0, int u8 0, int u8 0, int u8 0, int u8 0, int u8 0, int u8 0, int u8 0, int u8 0, int u8 0, int u8 0, int u8 0, int u8 0, int u8 0, int u8 0, int u8 0, AV.bool false, int u8 0, int u8 0, int u8 0, int u8 0, int u8 0, int u8 0, int u8 0, int u8 0, int u8 0, int u8 0, int u8 0, int u8 0, int u8 0, int u8 0, int u8 0, int u8 0], int i64 4])
 else (if (abits u16 (· &&& ·) (if Int.ofNat 0 ≤ Int.ofNat 6 ∧ 8 ≤ (((bOf (hFour0 l) (AV.sl (some (0, 0)) l.length 0 false)).length : Nat) : Int) then numAt (bOf (hFour0 l) (AV.sl (some (0, 0)) l.length 0 false)) 6 2 else 0) 16383 != 0) = true then
 K (AV.tup [AV.agg [int i64 0, int i64 0, int u8 0, AV.bool false, int u8 0, int u8 0, int u8 0, int u8 0, int u8 0, int u8 0, int u8 0, int u8 0, int u8 0, int u8 0, int u8 0, int u8 0, int u8 0, int u8 0, int u8 0, int u8 0, AV.bool false, int u8 0, int u8 0, int u8 0, int u8 0, int u8 0, int u8 0, int u8 0, int u8 0, int u8 0, int u8 0, int u8 0, int u8 0, int u8 0, int u8 0, int u8 0, int u8 0], int i64 5])
 else (if (intV (some (int u8 (intV (bys l)[9]?))) != 6) = true then
 (if (intV (some (int u8 (intV (bys l)[9]?))) != 17) = true then
 K (AV.tup [AV.agg [int i64 0, int i64 0, int u8 0, AV.bool false, int u8 0, int u8 0, int u8 0, int u8 0, int u8 0, int u8 0, int u8 0, int u8 0, int u8 0, int u8 0, int u8 0, int u8 0, int u8 0, int u8 0, int u8 0, int u8 0, AV.bool false, int u8 0, int u8 0, int u8 0, int u8 0, int u8 0, int u8 0, int u8 0, int u8 0, int u8 0, int u8 0, int u8 0, int u8 0, int u8 0, int u8 0, int u8 0, int u8 0], int i64 6])
 else K (AV.tup [AV.agg [int i64 (i64.wrap (i64.wrap (abits u8 (· &&& ·) (intV (bys l)[0]?) 15) * 4)), int i64 (i64.wrap (if Int.ofNat 0 ≤ Int.ofNat 2 ∧ 4 ≤ (((bOf (hFour0 l) (AV.sl (some (0, 0)) l.length 0 false)).length : Nat) : Int) then numAt (bOf (hFour0 l) (AV.sl (some (0, 0)) l.length 0 false)) 2 2 else 0)), int u8 (intV (bys l)[9]?), AV.bool false, int u8 (byt (bOf (hFour1 l) (AV.sl (some (0, 12)) 4 (roomOf l.length 0 12 false 16 false) false)) 0), int u8 (byt (bOf (hFour1 l) (AV.sl (some (0, 12)) 4 (roomOf l.length 0 12 false 16 false) false)) 1), int u8 (byt (bOf (hFour1 l) (AV.sl (some (0, 12)) 4 (roomOf l.length 0 12 false 16 false) false)) 2), int u8 (byt (bOf (hFour1 l) (AV.sl (some (0, 12)) 4 (roomOf l.length 0 12 false 16 false) false)) 3), int u8 0, int u8 0, int u8 0, int u8 0, int u8 0, int u8 0, int u8 0, int u8 0, int u8 0, int u8 0, int u8 0, int u8 0, AV.bool false, int u8 (byt (bOf (hFour2 l) (AV.sl (some (0, 16)) 4 (roomOf l.length 0 16 false 20 false) false)) 0), int u8 (byt (bOf (hFour2 l) (AV.sl (some (0, 16)) 4 (roomOf l.length 0 16 false 20 false) false)) 1), int u8 (byt (bOf (hFour2 l) (AV.sl (some (0, 16)) 4 (roomOf l.length 0 16 false 20 false) false)) 2), int u8 (byt (bOf (hFour2 l) (AV.sl (some (0, 16)) 4 (roomOf l.length 0 16 false 20 false) false)) 3), int u8 0, int u8 0, int u8 0, int u8 0, int u8 0, int u8 0, int u8 0, int u8 0, int u8 0, int u8 0, int u8 0, int u8 0], int i64 0]))
 else K (AV.tup [AV.agg [int i64 (i64.wrap (i64.wrap (abits u8 (· &&& ·) (intV (bys l)[0]?) 15) * 4)), int i64 (i64.wrap (if Int.ofNat 0 ≤ Int.ofNat 2 ∧ 4 ≤ (((bOf (hFour0 l) (AV.sl (some (0, 0)) l.length 0 false)).length : Nat) : Int) then numAt (bOf (hFour0 l) (AV.sl (some (0, 0)) l.length 0 false)) 2 2 else 0)), int u8 (intV (bys l)[9]?), AV.bool false, int u8 (byt (bOf (hFour1 l) (AV.sl (some (0, 12)) 4 (roomOf l.length 0 12 false 16 false) false)) 0), int u8 (byt (bOf (hFour1 l) (AV.sl (some (0, 12)) 4 (roomOf l.length 0 12 false 16 false) false)) 1), int u8 (byt (bOf (hFour1 l) (AV.sl (some (0, 12)) 4 (roomOf l.length 0 12 false 16 false) false)) 2), int u8 (byt (bOf (hFour1 l) (AV.sl (some (0, 12)) 4 (roomOf l.length 0 12 false 16 false) false)) 3), int u8 0, int u8 0, int u8 0, int u8 0, int u8 0, int u8 0, int u8 0, int u8 0, int u8 0, int u8 0, int u8 0, int u8 0, AV.bool false, int u8 (byt (bOf (hFour2 l) (AV.sl (some (0, 16)) 4 (roomOf l.length 0 16 false 20 false) false)) 0), int u8 (byt (bOf (hFour2 l) (AV.sl (some (0, 16)) 4 (roomOf l.length 0 16 false 20 false) false)) 1), int u8 (byt (bOf (hFour2 l) (AV.sl (some (0, 16)) 4 (roomOf l.length 0 16 false 20 false) false)) 2), int u8 (byt (bOf (hFour2 l) (AV.sl (some (0, 16)) 4 (roomOf l.length 0 16 false 20 false) false)) 3), int u8 0, int u8 0, int u8 0, int u8 0, int u8 0, int u8 0, int u8 0, int u8 0, int u8 0, int u8 0, int u8 0, int u8 0], int i64 0]))))
 else none) else none)))))
 else none) else none) else none) else none) else none) else none) else none) else none) else none) else none) else none) else none) else none) else none) else none) else none) else none) else none) else none) else none)) := by
  kernel_rfl

noncomputable def hRFour0 (l : List UInt8) : AHeap := [cells (bys l) 1 Md.far none, cells [int i64 0, int i64 0, int u8 0, AV.bool false, int u8 0, int u8 0, int u8 0, int u8 0, int u8 0, int u8 0, int u8 0, int u8 0, int u8 0, int u8 0, int u8 0, int u8 0, int u8 0, int u8 0, int u8 0, int u8 0, AV.bool false, int u8 0, int u8 0, int u8 0, int u8 0, int u8 0, int u8 0, int u8 0, int u8 0, int u8 0, int u8 0, int u8 0, int u8 0, int u8 0, int u8 0, int u8 0, int u8 0] 37 Md.own none]
noncomputable def hRFour1 (l : List UInt8) : AHeap := [cells (bys l) 1 Md.far none, cells [int i64 0, int i64 0, int u8 0, AV.bool false, int u8 0, int u8 0, int u8 0, int u8 0, int u8 0, int u8 0, int u8 0, int u8 0, int u8 0, int u8 0, int u8 0, int u8 0, int u8 0, int u8 0, int u8 0, int u8 0, AV.bool false, int u8 0, int u8 0, int u8 0, int u8 0, int u8 0, int u8 0, int u8 0, int u8 0, int u8 0, int u8 0, int u8 0, int u8 0, int u8 0, int u8 0, int u8 0, int u8 0] 37 Md.own none, cells [AV.bool false, int u8 0, int u8 0, int u8 0, int u8 0, int u8 0, int u8 0, int u8 0, int u8 0, int u8 0, int u8 0, int u8 0, int u8 0, int u8 0, int u8 0, int u8 0, int u8 0] 17 Md.own none]
noncomputable def hRFour2 (l : List UInt8) : AHeap := [cells (bys l) 1 Md.far none, cells [int i64 0, int i64 0, int u8 0, AV.bool false, int u8 0, int u8 0, int u8 0, int u8 0, int u8 0, int u8 0, int u8 0, int u8 0, int u8 0, int u8 0, int u8 0, int u8 0, int u8 0, int u8 0, int u8 0, int u8 0, AV.bool false, int u8 0, int u8 0, int u8 0, int u8 0, int u8 0, int u8 0, int u8 0, int u8 0, int u8 0, int u8 0, int u8 0, int u8 0, int u8 0, int u8 0, int u8 0, int u8 0] 37 Md.own none, cells [AV.bool false, int u8 (byt (bOf (hRFour1 l) (AV.sl (some (0, 12)) 4 (roomOf l.length 0 12 false 16 false) false)) 0), int u8 (byt (bOf (hRFour1 l) (AV.sl (some (0, 12)) 4 (roomOf l.length 0 12 false 16 false) false)) 1), int u8 (byt (bOf (hRFour1 l) (AV.sl (some (0, 12)) 4 (roomOf l.length 0 12 false 16 false) false)) 2), int u8 (byt (bOf (hRFour1 l) (AV.sl (some (0, 12)) 4 (roomOf l.length 0 12 false 16 false) false)) 3), int u8 0, int u8 0, int u8 0, int u8 0, int u8 0, int u8 0, int u8 0, int u8 0, int u8 0, int u8 0, int u8 0, int u8 0] 17 Md.own none, cells [AV.bool false, int u8 (byt (bOf (hRFour1 l) (AV.sl (some (0, 12)) 4 (roomOf l.length 0 12 false 16 false) false)) 0), int u8 (byt (bOf (hRFour1 l) (AV.sl (some (0, 12)) 4 (roomOf l.length 0 12 false 16 false) false)) 1), int u8 (byt (bOf (hRFour1 l) (AV.sl (some (0, 12)) 4 (roomOf l.length 0 12 false 16 false) false)) 2), int u8 (byt (bOf (hRFour1 l) (AV.sl (some (0, 12)) 4 (roomOf l.length 0 12 false 16 false) false)) 3), int u8 0, int u8 0, int u8 0, int u8 0, int u8 0, int u8 0, int u8 0, int u8 0, int u8 0, int u8 0, int u8 0, int u8 0] 17 Md.own none, cells [AV.bool false, int u8 0, int u8 0, int u8 0, int u8 0, int u8 0, int u8 0, int u8 0, int u8 0, int u8 0, int u8 0, int u8 0, int u8 0, int u8 0, int u8 0, int u8 0, int u8 0] 17 Md.own none]
noncomputable def hRFour3 (l : List UInt8) : AHeap := [cells (bys l) 1 Md.far none, cells [int i64 0, int i64 0, int u8 0, AV.bool false, int u8 0, int u8 0, int u8 0, int u8 0, int u8 0, int u8 0, int u8 0, int u8 0, int u8 0, int u8 0, int u8 0, int u8 0, int u8 0, int u8 0, int u8 0, int u8 0, AV.bool false, int u8 0, int u8 0, int u8 0, int u8 0, int u8 0, int u8 0, int u8 0, int u8 0, int u8 0, int u8 0, int u8 0, int u8 0, int u8 0, int u8 0, int u8 0, int u8 0] 37 Md.own none, cells [AV.bool false, int u8 (byt (bOf (hRFour1 l) (AV.sl (some (0, 12)) 4 (roomOf l.length 0 12 false 16 false) false)) 0), int u8 (byt (bOf (hRFour1 l) (AV.sl (some (0, 12)) 4 (roomOf l.length 0 12 false 16 false) false)) 1), int u8 (byt (bOf (hRFour1 l) (AV.sl (some (0, 12)) 4 (roomOf l.length 0 12 false 16 false) false)) 2), int u8 (byt (bOf (hRFour1 l) (AV.sl (some (0, 12)) 4 (roomOf l.length 0 12 false 16 false) false)) 3), int u8 0, int u8 0, int u8 0, int u8 0, int u8 0, int u8 0, int u8 0, int u8 0, int u8 0, int u8 0, int u8 0, int u8 0] 17 Md.own none, cells [AV.bool false, int u8 (byt (bOf (hRFour1 l) (AV.sl (some (0, 12)) 4 (roomOf l.length 0 12 false 16 false) false)) 0), int u8 (byt (bOf (hRFour1 l) (AV.sl (some (0, 12)) 4 (roomOf l.length 0 12 false 16 false) false)) 1), int u8 (byt (bOf (hRFour1 l) (AV.sl (some (0, 12)) 4 (roomOf l.length 0 12 false 16 false) false)) 2), int u8 (byt (bOf (hRFour1 l) (AV.sl (some (0, 12)) 4 (roomOf l.length 0 12 false 16 false) false)) 3), int u8 0, int u8 0, int u8 0, int u8 0, int u8 0, int u8 0, int u8 0, int u8 0, int u8 0, int u8 0, int u8 0, int u8 0] 17 Md.own none, cells [AV.bool false, int u8 (byt (bOf (hRFour2 l) (AV.sl (some (0, 16)) 4 (roomOf l.length 0 16 false 20 false) false)) 0), int u8 (byt (bOf (hRFour2 l) (AV.sl (some (0, 16)) 4 (roomOf l.length 0 16 false 20 false) false)) 1), int u8 (byt (bOf (hRFour2 l) (AV.sl (some (0, 16)) 4 (roomOf l.length 0 16 false 20 false) false)) 2), int u8 (byt (bOf (hRFour2 l) (AV.sl (some (0, 16)) 4 (roomOf l.length 0 16 false 20 false) false)) 3), int u8 0, int u8 0, int u8 0, int u8 0, int u8 0, int u8 0, int u8 0, int u8 0, int u8 0, int u8 0, int u8 0, int u8 0] 17 Md.own none, cells [AV.bool false, int u8 (byt (bOf (hRFour2 l) (AV.sl (some (0, 16)) 4 (roomOf l.length 0 16 false 20 false) false)) 0), int u8 (byt (bOf (hRFour2 l) (AV.sl (some (0, 16)) 4 (roomOf l.length 0 16 false 20 false) false)) 1), int u8 (byt (bOf (hRFour2 l) (AV.sl (some (0, 16)) 4 (roomOf l.length 0 16 false 20 false) false)) 2), int u8 (byt (bOf (hRFour2 l) (AV.sl (some (0, 16)) 4 (roomOf l.length 0 16 false 20 false) false)) 3), int u8 0, int u8 0, int u8 0, int u8 0, int u8 0, int u8 0, int u8 0, int u8 0, int u8 0, int u8 0, int u8 0, int u8 0] 17 Md.own none, cells [int i64 (i64.wrap (i64.wrap (abits u8 (· &&& ·) (intV (bys l)[0]?) 15) * 4)), int i64 (word (bOf (hRFour0 l) (AV.sl (some (0, 0)) l.length 0 false)) 2), int u8 (intV (bys l)[9]?), AV.bool false, int u8 (byt (bOf (hRFour1 l) (AV.sl (some (0, 12)) 4 (roomOf l.length 0 12 false 16 false) false)) 0), int u8 (byt (bOf (hRFour1 l) (AV.sl (some (0, 12)) 4 (roomOf l.length 0 12 false 16 false) false)) 1), int u8 (byt (bOf (hRFour1 l) (AV.sl (some (0, 12)) 4 (roomOf l.length 0 12 false 16 false) false)) 2), int u8 (byt (bOf (hRFour1 l) (AV.sl (some (0, 12)) 4 (roomOf l.length 0 12 false 16 false) false)) 3), int u8 0, int u8 0, int u8 0, int u8 0, int u8 0, int u8 0, int u8 0, int u8 0, int u8 0, int u8 0, int u8 0, int u8 0, AV.bool false, int u8 (byt (bOf (hRFour2 l) (AV.sl (some (0, 16)) 4 (roomOf l.length 0 16 false 20 false) false)) 0), int u8 (byt (bOf (hRFour2 l) (AV.sl (some (0, 16)) 4 (roomOf l.length 0 16 false 20 false) false)) 1), int u8 (byt (bOf (hRFour2 l) (AV.sl (some (0, 16)) 4 (roomOf l.length 0 16 false 20 false) false)) 2), int u8 (byt (bOf (hRFour2 l) (AV.sl (some (0, 16)) 4 (roomOf l.length 0 16 false 20 false) false)) 3), int u8 0, int u8 0, int u8 0, int u8 0, int u8 0, int u8 0, int u8 0, int u8 0, int u8 0, int u8 0, int u8 0, int u8 0] 37 Md.own none]
theorem nfRFour {R : Type} (l : List UInt8) (K : AV → Option R) :
 qrun Try.prog tRFour 100 4 [] [] 35 [slB 0 l] [farB l] (fun v _ => K v) =
 (if decide ((l.length : Int) < 20) = true then
 K (AV.tup [AV.agg [int i64 0, int i64 0, int u8 0, AV.bool false, int u8 0, int u8 0, int u8 0, int u8 0, int u8 0, int u8 0, int u8 0, int u8 0, int u8 0, int u8 0, int u8 0, int u8 0, int u8 0, int u8 0, int u8 0, int u8 0, AV.bool false, int u8 0, int u8 0, int u8 0, int u8 0, int u8 0, int u8 0, int u8 0, int u8 0, int u8 0, int u8 0, int u8 0, int u8 0, int u8 0, int u8 0, int u8 0, int u8 0], int i64 1])
 else (if Int.ofNat 0 ≤ Int.ofNat 0 ∧ 0 < (l.length : Int) then
 (if isIntV u8 (bys l)[0]? = true then
 (if (bOk (hRFour0 l) (AV.sl (some (0, 0)) l.length 0 false) && decide (nOf (AV.sl (some (0, 0)) l.length 0 false) ≤ 70368744177664 ∧ Int.ofNat 0 ≤ Int.ofNat 2 ∧ 4 ≤ (((nOf (AV.sl (some (0, 0)) l.length 0 false)) : Nat) : Int))) = true then
 (if Int.ofNat 0 ≤ Int.ofNat 9 ∧ 9 < (l.length : Int) then
 (if isIntV u8 (bys l)[9]? = true then
 (if Int.ofNat 0 ≤ Int.ofNat 16 ∧ 16 ≤ (((capOf l.length 0 false) : Nat) : Int) then
 (if bOk (hRFour1 l) (AV.sl (some (0, 12)) 4 (roomOf l.length 0 12 false 16 false) false) = true then
 (if Int.ofNat 0 ≤ Int.ofNat 20 ∧ 20 ≤ (((capOf l.length 0 false) : Nat) : Int) then
 (if bOk (hRFour2 l) (AV.sl (some (0, 16)) 4 (roomOf l.length 0 16 false 20 false) false) = true then
 (if isIntV u8 (bys l)[0]? = true then
 (if (int u8 (intV (bys l)[0]?)).beq (int u8 (intV (bys l)[0]?)) = true then
 (if isIntV u8 (bys l)[0]? = true then
 (if (int u8 (intV (bys l)[0]?)).beq (int u8 (intV (bys l)[0]?)) = true then
 (if isIntV u8 (bys l)[0]? = true then
 (if (int u8 (intV (bys l)[0]?)).beq (int u8 (intV (bys l)[0]?)) = true then
 (if isIntV u8 (bys l)[9]? = true then
 (if (int u8 (intV (bys l)[9]?)).beq (int u8 (intV (bys l)[9]?)) = true then
 (if isIntV u8 (bys l)[9]? = true then
 (if (int u8 (intV (bys l)[9]?)).beq (int u8 (intV (bys l)[9]?)) = true then
 (if isIntV u8 (bys l)[9]? = true then
 (if (int u8 (intV (bys l)[9]?)).beq (int u8 (intV (bys l)[9]?)) = true then
 (if Int.ofNat 0 ≤ Int.ofNat 0 ∧ 0 < (l.length : Int) then
 (if isIntV u8 (bys l)[0]? = true then
 (if ((intV (bys l)[0]?).fdiv 16 != 4) = true then
 K (AV.tup [AV.agg [int i64 0, int i64 0, int u8 0, AV.bool false, int u8 0, int u8 0, int u8 0, int u8 0, int u8 0, int u8 0, int u8 0, int u8 0, int u8 0, int u8 0, int u8 0, int u8 0, int u8 0, int u8 0, int u8 0, int u8 0, AV.bool false, int u8 0, int u8 0, int u8 0, int u8 0, int u8 0, int u8 0, int u8 0, int u8 0, int u8 0, int u8 0, int u8 0, int u8 0, int u8 0, int u8 0, int u8 0, int u8 0], int i64 3])
 else (if decide (intV (some (int i64 (i64.wrap (i64.wrap (abits u8 (· &&& ·) (intV (bys l)[0]?) 15) * 4)))) < 20) = true then
 K (AV.tup [AV.agg [int i64 0, int i64 0, int u8 0, AV.bool false, int u8 0, int u8 0, int u8 0, int u8 0, int u8 0, int u8 0, int u8 0, int u8 0, int u8 0, int u8 0, int u8 0, int u8 0, int u8 0, int u8 0, int u8 0, int u8 0, AV.bool false, int u8 0, int u8 0, int u8 0, int u8 0, int u8 0, int u8 0, int u8 0, int u8 0, int u8 0, int u8 0, int u8 0, int u8 0, int u8 0, int u8 0, int u8 0, int u8 0], int i64 3])
 else (if decide (intV (some (int i64 (word (bOf (hRFour0 l) (AV.sl (some (0, 0)) l.length 0 false)) 2))) < intV (some (int i64 (i64.wrap (i64.wrap (abits u8 (· &&& ·) (intV (bys l)[0]?) 15) * 4))))) = true then
 K (AV.tup [AV.agg [int i64 0, int i64 0, int u8 0, AV.bool false, int u8 0, int u8 0, int u8 0, int u8 0, int u8 0, int u8 0, int u8 0, int u8 0, int u8 0, int u8 0, int u8 0, int u8 0, int u8 0, int u8 0, int u8 0, int u8 0, AV.bool false, int u8 0, int u8 0, int u8 0, int u8 0, int u8 0, int u8 0, int u8 0, int u8 0, int u8 0, int u8 0, int u8 0, int u8 0, int u8 0, int u8 0, int u8 0, int u8 0], int i64 3])
 else (if decide ((l.length : Int) < intV (some (int i64 (i64.wrap (i64.wrap (abits u8 (· &&& ·) (intV (bys l)[0]?) 15) * 4))))) = true then
 K (AV.tup [AV.agg [int i64 0, int i64 0, int u8 0, AV.bool false, int u8 0, int u8 0, int u8 0, int u8 0, int u8 0, int u8 0, int u8 0, int u8 0, int u8 0, int u8 0, int u8 0, int u8 0, int u8 0, int u8 0, int u8 0, int u8 0, AV.bool false, int u8 0, int u8 0, int u8 0, int u8 0, int u8 0, int u8 0, int u8 0, int u8 0, int u8 0, int u8 0, int u8 0, int u8 0, int u8 0, int u8 0, int u8 0, int u8 0], int i64 1])
 else (if decide ((l.length : Int) < intV (some (int i64 (word (bOf (hRFour0 l) (AV.sl (some (0, 0)) l.length 0 false)) 2)))) = true then
 K (AV.tup [AV.agg [int i64 0, int i64 0, int u8 0, AV.bool false, int u8 0, int u8 0, int u8 0, int u8 0, int u8 0, int u8 0, int u8 0, int u8 0, int u8 0, int u8 0, int u8 0, int u8 0, int u8 0, int u8 0, int u8 0, int u8 0, AV.bool false, int u8 0, int u8 0, int u8 0, int u8 0, int u8 0, int u8 0, int u8 0, int u8 0, int u8 0, int u8 0, int u8 0, int u8 0, int u8 0, int u8 0, int u8 0, int u8 0], int i64 1])
 else (if 0 ≤ intV (some (int i64 (i64.wrap (i64.wrap (abits u8 (· &&& ·) (intV (bys l)[0]?) 15) * 4)))) ∧ intV (some (int i64 (i64.wrap (i64.wrap (abits u8 (· &&& ·) (intV (bys l)[0]?) 15) * 4)))) ≤ (((capOf l.length 0 false) : Nat) : Int) then
 (if (bOk (hRFour3 l) (AV.sl (some (0, 0)) ((intV (some (int i64 (i64.wrap (i64.wrap (abits u8 (· &&& ·) (intV (bys l)[0]?) 15) * 4))))).toNat - 0) (roomOf l.length 0 0 (some (intV (some (int i64 (i64.wrap (i64.wrap (abits u8 (· &&& ·) (intV (bys l)[0]?) 15) * 4)))))).isNone (intV (some (int i64 (i64.wrap (i64.wrap (abits u8 (· &&& ·) (intV (bys l)[0]?) 15) * 4))))).toNat false) false) && decide (nOf (AV.sl (some (0, 0)) ((intV (some (int i64 (i64.wrap (i64.wrap (abits u8 (· &&& ·) (intV (bys l)[0]?) 15) * 4))))).toNat - 0) (roomOf l.length 0 0 (some (intV (some (int i64 (i64.wrap (i64.wrap (abits u8 (· &&& ·) (intV (bys l)[0]?) 15) * 4)))))).isNone (intV (some (int i64 (i64.wrap (i64.wrap (abits u8 (· &&& ·) (intV (bys l)[0]?) 15) * 4))))).toNat false) false) ≤ 70368744177664 ∧ Int.ofNat 0 ≤ Int.ofNat 0 ∧ Int.ofNat 0 < Int.ofNat 4294967296)) = true then
 (if (i64.wrap (65535 - sumI (bOf (hRFour3 l) (AV.sl (some (0, 0)) ((intV (some (int i64 (i64.wrap (i64.wrap (abits u8 (· &&& ·) (intV (bys l)[0]?) 15) * 4))))).toNat - 0) (roomOf l.length 0 0 (some (intV (some (int i64 (i64.wrap (i64.wrap (abits u8 (· &&& ·) (intV (bys l)[0]?) 15) * 4)))))).isNone (intV (some (int i64 (i64.wrap (i64.wrap (abits u8 (· &&& ·) (intV (bys l)[0]?) 15) * 4))))).toNat false) false)) 0) != 0) = true then
 K (AV.tup [AV.agg [int i64 0, int i64 0, int u8 0, AV.bool false, int u8 0, int u8 0, int u8 0, int u8 0, int u8 0, int u8 0, int u8 0, int u8 0, int u8 0, int u8 0, int u8 0, int u8 0, int u8 0, int u8 0, int u8 0, int u8 0, AV.bool false, int u8 0, int u8 0, int u8 0, int u8 0, int u8 0, int u8 0, int u8 0, int u8 0, int u8 0, int u8 0, int u8 0, int u8 0, int u8 0, int u8 0, int u8 0, int u8 0], int i64 4])
 else (if (bOk (hRFour3 l) (AV.sl (some (0, 0)) l.length 0 false) && decide (nOf (AV.sl (some (0, 0)) l.length 0 false) ≤ 70368744177664 ∧ Int.ofNat 0 ≤ Int.ofNat 6 ∧ 8 ≤ (((nOf (AV.sl (some (0, 0)) l.length 0 false)) : Nat) : Int))) = true then
 (if (abits i64 (· &&& ·) (word (bOf (hRFour3 l) (AV.sl (some (0, 0)) l.length 0 false)) 6) 16383 != 0) = true then
 K (AV.tup [AV.agg [int i64 0, int i64 0, int u8 0, AV.bool false, int u8 0, int u8 0, int u8 0, int u8 0, int u8 0, int u8 0, int u8 0, int u8 0, int u8 0, int u8 0, int u8 0, int u8 0, int u8 0, int u8 0, int u8 0, int u8 0, AV.bool false, int u8 0, int u8 0, int u8 0, int u8 0, int u8 0, int u8 0, int u8 0, int u8 0, int u8 0, int u8 0, int u8 0, int u8 0, int u8 0, int u8 0, int u8 0, int u8 0], int i64 5])
 else (if (intV (some (int u8 (intV (bys l)[9]?))) != 6) = true then
 (if (intV (some (int u8 (intV (bys l)[9]?))) != 17) = true then
 K (AV.tup [AV.agg [int i64 0, int i64 0, int u8 0, AV.bool false, int u8 0, int u8 0, int u8 0, int u8 0, int u8 0, int u8 0, int u8 0, int u8 0, int u8 0, int u8 0, int u8 0, int u8 0, int u8 0, int u8 0, int u8 0, int u8 0, AV.bool false, int u8 0, int u8 0, int u8 0, int u8 0, int u8 0, int u8 0, int u8 0, int u8 0, int u8 0, int u8 0, int u8 0, int u8 0, int u8 0, int u8 0, int u8 0, int u8 0], int i64 6])
 else K (AV.tup [AV.agg [int i64 (i64.wrap (i64.wrap (abits u8 (· &&& ·) (intV (bys l)[0]?) 15) * 4)), int i64 (word (bOf (hRFour0 l) (AV.sl (some (0, 0)) l.length 0 false)) 2), int u8 (intV (bys l)[9]?), AV.bool false, int u8 (byt (bOf (hRFour1 l) (AV.sl (some (0, 12)) 4 (roomOf l.length 0 12 false 16 false) false)) 0), int u8 (byt (bOf (hRFour1 l) (AV.sl (some (0, 12)) 4 (roomOf l.length 0 12 false 16 false) false)) 1), int u8 (byt (bOf (hRFour1 l) (AV.sl (some (0, 12)) 4 (roomOf l.length 0 12 false 16 false) false)) 2), int u8 (byt (bOf (hRFour1 l) (AV.sl (some (0, 12)) 4 (roomOf l.length 0 12 false 16 false) false)) 3), int u8 0, int u8 0, int u8 0, int u8 0, int u8 0, int u8 0, int u8 0, int u8 0, int u8 0, int u8 0, int u8 0, int u8 0, AV.bool false, int u8 (byt (bOf (hRFour2 l) (AV.sl (some (0, 16)) 4 (roomOf l.length 0 16 false 20 false) false)) 0), int u8 (byt (bOf (hRFour2 l) (AV.sl (some (0, 16)) 4 (roomOf l.length 0 16 false 20 false) false)) 1), int u8 (byt (bOf (hRFour2 l) (AV.sl (some (0, 16)) 4 (roomOf l.length 0 16 false 20 false) false)) 2), int u8 (byt (bOf (hRFour2 l) (AV.sl (some (0, 16)) 4 (roomOf l.length 0 16 false 20 false) false)) 3), int u8 0, int u8 0, int u8 0, int u8 0, int u8 0, int u8 0, int u8 0, int u8 0, int u8 0, int u8 0, int u8 0, int u8 0], int i64 0]))
 else K (AV.tup [AV.agg [int i64 (i64.wrap (i64.wrap (abits u8 (· &&& ·) (intV (bys l)[0]?) 15) * 4)), int i64 (word (bOf (hRFour0 l) (AV.sl (some (0, 0)) l.length 0 false)) 2), int u8 (intV (bys l)[9]?), AV.bool false, int u8 (byt (bOf (hRFour1 l) (AV.sl (some (0, 12)) 4 (roomOf l.length 0 12 false 16 false) false)) 0), int u8 (byt (bOf (hRFour1 l) (AV.sl (some (0, 12)) 4 (roomOf l.length 0 12 false 16 false) false)) 1), int u8 (byt (bOf (hRFour1 l) (AV.sl (some (0, 12)) 4 (roomOf l.length 0 12 false 16 false) false)) 2), int u8 (byt (bOf (hRFour1 l) (AV.sl (some (0, 12)) 4 (roomOf l.length 0 12 false 16 false) false)) 3), int u8 0, int u8 0, int u8 0, int u8 0, int u8 0, int u8 0, int u8 0, int u8 0, int u8 0, int u8 0, int u8 0, int u8 0, AV.bool false, int u8 (byt (bOf (hRFour2 l) (AV.sl (some (0, 16)) 4 (roomOf l.length 0 16 false 20 false) false)) 0), int u8 (byt (bOf (hRFour2 l) (AV.sl (some (0, 16)) 4 (roomOf l.length 0 16 false 20 false) false)) 1), int u8 (byt (bOf (hRFour2 l) (AV.sl (some (0, 16)) 4 (roomOf l.length 0 16 false 20 false) false)) 2), int u8 (byt (bOf (hRFour2 l) (AV.sl (some (0, 16)) 4 (roomOf l.length 0 16 false 20 false) false)) 3), int u8 0, int u8 0, int u8 0, int u8 0, int u8 0, int u8 0, int u8 0, int u8 0, int u8 0, int u8 0, int u8 0, int u8 0], int i64 0])))
 else none))
 else none) else none))))))
 else none) else none) else none) else none) else none) else none) else none) else none) else none) else none) else none) else none) else none) else none) else none) else none) else none) else none) else none) else none) else none) else none) else none)) := by
  kernel_rfl


set_option maxHeartbeats 2000000 in
theorem walkFour (l : List UInt8) (hl : l.length ≤ 1000000000000) : qrun Try.prog tFour 100 4 [] [] 42 [slB 0 l] [farB l] (fun v _ => some v) = some (v4Read l) := by
  rw [nfFour]
  simp only [hFour0, hFour1, hFour2, hFour3, ↓Bool.and_eq_true, ↓decide_eq_true_eq, bOk, bOf, rowOk, rowOf, nOf_sl, List.getElem?_cons_zero, List.getElem?_cons_succ, Nat.zero_add, Nat.mul_one, Nat.add_zero, List.drop_zero, bys_drop, bys_take, bys_byteD, bys_isByteR, List.take_length, bys_length, intV_some, isIntV_byte, intV_byte, bys_get, beq_int, Bool.and_true, Bool.true_and, AV.beq_self, fdiv16', Nat.sub_zero]
  have w2 := word_range l 2
  have w6 := word_range l 6
  have hb0 := byt_range l 0
  have hb9 := byt_range l 9
  by_cases h1 : l.length < 20
  · have hr : r4 l = 1 := by unfold r4; rw [if_pos h1]
    repeat (first | (refine (if_pos ?_).trans ?_; · first | trivial | omega | (simp [capOf]; done) | (simp [capOf]; omega)) | (refine (if_neg ?_).trans ?_; · first | omega | (simp; done) | (simp; omega)))
    simp [v4Read, head4, adrZ4, z4, adrV, hr, byt_tk4]
  have hA : abits .u8 (· &&& ·) (byt l 0) 15 = byt l 0 % 16 := and15 hb0
  have hw1 : i64.wrap (byt l 0 % 16) = byt l 0 % 16 := wrapI64 (by omega)
  have hw2 : i64.wrap (byt l 0 % 16 * 4) = byt l 0 % 16 * 4 := wrapI64 (by omega)
  have n2 : numAt l 2 2 = word l 2 := numAt_two (by omega)
  have n6 : numAt l 6 2 = word l 6 := numAt_two (by omega)
  have f2 : (if Int.ofNat 0 ≤ Int.ofNat 2 ∧ 4 ≤ (l.length : Int) then word l 2 else 0) = word l 2 := if_pos ⟨by decide, by omega⟩
  have f6 : (if Int.ofNat 0 ≤ Int.ofNat 6 ∧ 8 ≤ (l.length : Int) then word l 6 else 0) = word l 6 := if_pos ⟨by decide, by omega⟩
  have hw3 : i64.wrap (word l 2) = word l 2 := wrapI64 (by omega)
  have hg6 : abits .u16 (· &&& ·) (word l 6) 16383 = word l 6 % 16384 := and3f w6
  have hg6i : abits .i64 (· &&& ·) (word l 6) 16383 = word l 6 % 16384 := and3fi w6
  have hS : s4 l = byt l 0 % 16 * 4 := rfl
  have hsr := sumI_range (l.take (byt l 0 % 16 * 4).toNat) 0
  have hck : chkI (l.take (byt l 0 % 16 * 4).toNat) = 65535 - sumI (l.take (byt l 0 % 16 * 4).toNat) 0 := rfl
  have hx : abits .u16 (· ^^^ ·) 65535 (sumI (l.take (byt l 0 % 16 * 4).toNat) 0) = chkI (l.take (byt l 0 % 16 * 4).toNat) := xor16 hsr
  have hxi : i64.wrap (65535 - sumI (l.take (byt l 0 % 16 * 4).toNat) 0) = chkI (l.take (byt l 0 % 16 * 4).toNat) := wrapI64 (by omega)
  simp only [hA, hw1, hw2, n2, n6, f2, f6, hw3, hg6, hg6i, hx, hxi]
  simp only [← hS]
  by_cases h2 : byt l 0 / 16 = 4
  case neg =>
    have hr : r4 l = 3 := by unfold r4; rw [if_neg h1, if_pos h2]
    repeat (first | (refine (if_pos ?_).trans ?_; · first | trivial | omega | (simp [capOf]; done) | (simp [capOf]; omega)) | (refine (if_neg ?_).trans ?_; · first | omega | (simp; done) | (simp; omega)))
    simp [v4Read, head4, adrZ4, z4, adrV, hr, byt_tk4]
  by_cases h3 : s4 l < 20
  · have hr : r4 l = 3 := by unfold r4; rw [if_neg h1, if_neg (by omega), if_pos h3]
    repeat (first | (refine (if_pos ?_).trans ?_; · first | trivial | omega | (simp [capOf]; done) | (simp [capOf]; omega)) | (refine (if_neg ?_).trans ?_; · first | omega | (simp; done) | (simp; omega)))
    simp [v4Read, head4, adrZ4, z4, adrV, hr, byt_tk4]
  by_cases h4 : word l 2 < s4 l
  · have hr : r4 l = 3 := by unfold r4; rw [if_neg h1, if_neg (by omega), if_neg h3, if_pos h4]
    repeat (first | (refine (if_pos ?_).trans ?_; · first | trivial | omega | (simp [capOf]; done) | (simp [capOf]; omega)) | (refine (if_neg ?_).trans ?_; · first | omega | (simp; done) | (simp; omega)))
    simp [v4Read, head4, adrZ4, z4, adrV, hr, byt_tk4]
  by_cases h5 : (l.length : Int) < word l 2
  · have hr : r4 l = 1 := by unfold r4; rw [if_neg h1, if_neg (by omega), if_neg h3, if_neg h4, if_pos h5]
    by_cases h5b : (l.length : Int) < s4 l
    · repeat (first | (refine (if_pos ?_).trans ?_; · first | trivial | omega | (simp [capOf]; done) | (simp [capOf]; omega)) | (refine (if_neg ?_).trans ?_; · first | omega | (simp; done) | (simp; omega)))
      simp [v4Read, head4, adrZ4, z4, adrV, hr, byt_tk4]
    · repeat (first | (refine (if_pos ?_).trans ?_; · first | trivial | omega | (simp [capOf]; done) | (simp [capOf]; omega)) | (refine (if_neg ?_).trans ?_; · first | omega | (simp; done) | (simp; omega)))
      simp [v4Read, head4, adrZ4, z4, adrV, hr, byt_tk4]
  by_cases h6 : chkI (l.take (s4 l).toNat) = 0
  case neg =>
    have hr : r4 l = 4 := by unfold r4; rw [if_neg h1, if_neg (by omega), if_neg h3, if_neg h4, if_neg h5, if_pos h6]
    repeat (first | (refine (if_pos ?_).trans ?_; · first | trivial | omega | (simp [capOf]; done) | (simp [capOf]; omega)) | (refine (if_neg ?_).trans ?_; · first | omega | (simp; done) | (simp; omega)))
    simp [v4Read, head4, adrZ4, z4, adrV, hr, byt_tk4]
  by_cases h7 : word l 6 % 16384 = 0
  case neg =>
    have hr : r4 l = 5 := by unfold r4; rw [if_neg h1, if_neg (by omega), if_neg h3, if_neg h4, if_neg h5, if_neg (by omega), if_pos h7]
    repeat (first | (refine (if_pos ?_).trans ?_; · first | trivial | omega | (simp [capOf]; done) | (simp [capOf]; omega)) | (refine (if_neg ?_).trans ?_; · first | omega | (simp; done) | (simp; omega)))
    simp [v4Read, head4, adrZ4, z4, adrV, hr, byt_tk4]
  by_cases h8 : byt l 9 = 6
  · have hr : r4 l = 0 := by unfold r4; rw [if_neg h1, if_neg (by omega), if_neg h3, if_neg h4, if_neg h5, if_neg (by omega), if_neg (by omega), if_neg (by omega)]
    repeat (first | (refine (if_pos ?_).trans ?_; · first | trivial | omega | (simp [capOf]; done) | (simp [capOf]; omega)) | (refine (if_neg ?_).trans ?_; · first | omega | (simp; done) | (simp; omega)))
    simp [v4Read, head4, adrZ4, z4, adrV, hr, byt_tk4]
  by_cases h9 : byt l 9 = 17
  · have hr : r4 l = 0 := by unfold r4; rw [if_neg h1, if_neg (by omega), if_neg h3, if_neg h4, if_neg h5, if_neg (by omega), if_neg (by omega), if_neg (by omega)]
    repeat (first | (refine (if_pos ?_).trans ?_; · first | trivial | omega | (simp [capOf]; done) | (simp [capOf]; omega)) | (refine (if_neg ?_).trans ?_; · first | omega | (simp; done) | (simp; omega)))
    simp [v4Read, head4, adrZ4, z4, adrV, hr, byt_tk4]
  · have hr : r4 l = 6 := by unfold r4; rw [if_neg h1, if_neg (by omega), if_neg h3, if_neg h4, if_neg h5, if_neg (by omega), if_neg (by omega), if_pos ⟨h8, h9⟩]
    repeat (first | (refine (if_pos ?_).trans ?_; · first | trivial | omega | (simp [capOf]; done) | (simp [capOf]; omega)) | (refine (if_neg ?_).trans ?_; · first | omega | (simp; done) | (simp; omega)))
    simp [v4Read, head4, adrZ4, z4, adrV, hr, byt_tk4]

def eFour : GEnt := fun args h => match args with
  | [b] => some (bOk h b && decide (nOf b ≤ 1000000000000), v4Read (bOf h b), h)
  | _ => none

theorem sFour : SoundE Try.prog 42 (entF eFour) := by
  refine canonV_sound fun args h v h' hg => ?_
  unfold eFour at hg
  split at hg
  · rename_i b
    simp only [Option.some.injEq, Prod.mk.injEq, Bool.and_eq_true, decide_eq_true_eq] at hg
    obtain ⟨⟨hb, hn⟩, rfl, rfl⟩ := hg
    rw [← bOk_len hb] at hn
    refine ⟨rfl, rfl, [slB 0 (bOf h b)], [farB (bOf h b)], .cons _ _ _ _ _ _ _ (bOk_canon hb 0) (.nil _), ?_⟩
    exact Runs.valT0 tFourOk (F := 100) (n := 4) (pr := []) (walkFour _ hn)
  · simp at hg


set_option maxHeartbeats 2000000 in
theorem walkRFour (l : List UInt8) (hl : l.length ≤ 1000000000000) : qrun Try.prog tRFour 100 4 [] [] 35 [slB 0 l] [farB l] (fun v _ => some v) = some (v4Read l) := by
  rw [nfRFour]
  simp only [hRFour0, hRFour1, hRFour2, hRFour3, ↓Bool.and_eq_true, ↓decide_eq_true_eq, bOk, bOf, rowOk, rowOf, nOf_sl, List.getElem?_cons_zero, List.getElem?_cons_succ, Nat.zero_add, Nat.mul_one, Nat.add_zero, List.drop_zero, bys_drop, bys_take, bys_byteD, bys_isByteR, List.take_length, bys_length, intV_some, isIntV_byte, intV_byte, bys_get, beq_int, Bool.and_true, Bool.true_and, AV.beq_self, fdiv16', Nat.sub_zero]
  have w2 := word_range l 2
  have w6 := word_range l 6
  have hb0 := byt_range l 0
  have hb9 := byt_range l 9
  by_cases h1 : l.length < 20
  · have hr : r4 l = 1 := by unfold r4; rw [if_pos h1]
    repeat (first | (refine (if_pos ?_).trans ?_; · first | trivial | omega | (simp [capOf]; done) | (simp [capOf]; omega)) | (refine (if_neg ?_).trans ?_; · first | omega | (simp; done) | (simp; omega)))
    simp [v4Read, head4, adrZ4, z4, adrV, hr, byt_tk4]
  have hA : abits .u8 (· &&& ·) (byt l 0) 15 = byt l 0 % 16 := and15 hb0
  have hw1 : i64.wrap (byt l 0 % 16) = byt l 0 % 16 := wrapI64 (by omega)
  have hw2 : i64.wrap (byt l 0 % 16 * 4) = byt l 0 % 16 * 4 := wrapI64 (by omega)
  have n2 : numAt l 2 2 = word l 2 := numAt_two (by omega)
  have n6 : numAt l 6 2 = word l 6 := numAt_two (by omega)
  have f2 : (if Int.ofNat 0 ≤ Int.ofNat 2 ∧ 4 ≤ (l.length : Int) then word l 2 else 0) = word l 2 := if_pos ⟨by decide, by omega⟩
  have f6 : (if Int.ofNat 0 ≤ Int.ofNat 6 ∧ 8 ≤ (l.length : Int) then word l 6 else 0) = word l 6 := if_pos ⟨by decide, by omega⟩
  have hw3 : i64.wrap (word l 2) = word l 2 := wrapI64 (by omega)
  have hg6 : abits .u16 (· &&& ·) (word l 6) 16383 = word l 6 % 16384 := and3f w6
  have hg6i : abits .i64 (· &&& ·) (word l 6) 16383 = word l 6 % 16384 := and3fi w6
  have hS : s4 l = byt l 0 % 16 * 4 := rfl
  have hsr := sumI_range (l.take (byt l 0 % 16 * 4).toNat) 0
  have hck : chkI (l.take (byt l 0 % 16 * 4).toNat) = 65535 - sumI (l.take (byt l 0 % 16 * 4).toNat) 0 := rfl
  have hx : abits .u16 (· ^^^ ·) 65535 (sumI (l.take (byt l 0 % 16 * 4).toNat) 0) = chkI (l.take (byt l 0 % 16 * 4).toNat) := xor16 hsr
  have hxi : i64.wrap (65535 - sumI (l.take (byt l 0 % 16 * 4).toNat) 0) = chkI (l.take (byt l 0 % 16 * 4).toNat) := wrapI64 (by omega)
  simp only [hA, hw1, hw2, n2, n6, f2, f6, hw3, hg6, hg6i, hx, hxi]
  simp only [← hS]
  by_cases h2 : byt l 0 / 16 = 4
  case neg =>
    have hr : r4 l = 3 := by unfold r4; rw [if_neg h1, if_pos h2]
    repeat (first | (refine (if_pos ?_).trans ?_; · first | trivial | omega | (simp [capOf]; done) | (simp [capOf]; omega)) | (refine (if_neg ?_).trans ?_; · first | omega | (simp; done) | (simp; omega)))
    simp [v4Read, head4, adrZ4, z4, adrV, hr, byt_tk4]
  by_cases h3 : s4 l < 20
  · have hr : r4 l = 3 := by unfold r4; rw [if_neg h1, if_neg (by omega), if_pos h3]
    repeat (first | (refine (if_pos ?_).trans ?_; · first | trivial | omega | (simp [capOf]; done) | (simp [capOf]; omega)) | (refine (if_neg ?_).trans ?_; · first | omega | (simp; done) | (simp; omega)))
    simp [v4Read, head4, adrZ4, z4, adrV, hr, byt_tk4]
  by_cases h4 : word l 2 < s4 l
  · have hr : r4 l = 3 := by unfold r4; rw [if_neg h1, if_neg (by omega), if_neg h3, if_pos h4]
    repeat (first | (refine (if_pos ?_).trans ?_; · first | trivial | omega | (simp [capOf]; done) | (simp [capOf]; omega)) | (refine (if_neg ?_).trans ?_; · first | omega | (simp; done) | (simp; omega)))
    simp [v4Read, head4, adrZ4, z4, adrV, hr, byt_tk4]
  by_cases h5 : (l.length : Int) < word l 2
  · have hr : r4 l = 1 := by unfold r4; rw [if_neg h1, if_neg (by omega), if_neg h3, if_neg h4, if_pos h5]
    by_cases h5b : (l.length : Int) < s4 l
    · repeat (first | (refine (if_pos ?_).trans ?_; · first | trivial | omega | (simp [capOf]; done) | (simp [capOf]; omega)) | (refine (if_neg ?_).trans ?_; · first | omega | (simp; done) | (simp; omega)))
      simp [v4Read, head4, adrZ4, z4, adrV, hr, byt_tk4]
    · repeat (first | (refine (if_pos ?_).trans ?_; · first | trivial | omega | (simp [capOf]; done) | (simp [capOf]; omega)) | (refine (if_neg ?_).trans ?_; · first | omega | (simp; done) | (simp; omega)))
      simp [v4Read, head4, adrZ4, z4, adrV, hr, byt_tk4]
  by_cases h6 : chkI (l.take (s4 l).toNat) = 0
  case neg =>
    have hr : r4 l = 4 := by unfold r4; rw [if_neg h1, if_neg (by omega), if_neg h3, if_neg h4, if_neg h5, if_pos h6]
    repeat (first | (refine (if_pos ?_).trans ?_; · first | trivial | omega | (simp [capOf]; done) | (simp [capOf]; omega)) | (refine (if_neg ?_).trans ?_; · first | omega | (simp; done) | (simp; omega)))
    simp [v4Read, head4, adrZ4, z4, adrV, hr, byt_tk4]
  by_cases h7 : word l 6 % 16384 = 0
  case neg =>
    have hr : r4 l = 5 := by unfold r4; rw [if_neg h1, if_neg (by omega), if_neg h3, if_neg h4, if_neg h5, if_neg (by omega), if_pos h7]
    repeat (first | (refine (if_pos ?_).trans ?_; · first | trivial | omega | (simp [capOf]; done) | (simp [capOf]; omega)) | (refine (if_neg ?_).trans ?_; · first | omega | (simp; done) | (simp; omega)))
    simp [v4Read, head4, adrZ4, z4, adrV, hr, byt_tk4]
  by_cases h8 : byt l 9 = 6
  · have hr : r4 l = 0 := by unfold r4; rw [if_neg h1, if_neg (by omega), if_neg h3, if_neg h4, if_neg h5, if_neg (by omega), if_neg (by omega), if_neg (by omega)]
    repeat (first | (refine (if_pos ?_).trans ?_; · first | trivial | omega | (simp [capOf]; done) | (simp [capOf]; omega)) | (refine (if_neg ?_).trans ?_; · first | omega | (simp; done) | (simp; omega)))
    simp [v4Read, head4, adrZ4, z4, adrV, hr, byt_tk4]
  by_cases h9 : byt l 9 = 17
  · have hr : r4 l = 0 := by unfold r4; rw [if_neg h1, if_neg (by omega), if_neg h3, if_neg h4, if_neg h5, if_neg (by omega), if_neg (by omega), if_neg (by omega)]
    repeat (first | (refine (if_pos ?_).trans ?_; · first | trivial | omega | (simp [capOf]; done) | (simp [capOf]; omega)) | (refine (if_neg ?_).trans ?_; · first | omega | (simp; done) | (simp; omega)))
    simp [v4Read, head4, adrZ4, z4, adrV, hr, byt_tk4]
  · have hr : r4 l = 6 := by unfold r4; rw [if_neg h1, if_neg (by omega), if_neg h3, if_neg h4, if_neg h5, if_neg (by omega), if_neg (by omega), if_pos ⟨h8, h9⟩]
    repeat (first | (refine (if_pos ?_).trans ?_; · first | trivial | omega | (simp [capOf]; done) | (simp [capOf]; omega)) | (refine (if_neg ?_).trans ?_; · first | omega | (simp; done) | (simp; omega)))
    simp [v4Read, head4, adrZ4, z4, adrV, hr, byt_tk4]

def eRFour : GEnt := fun args h => match args with
  | [b] => some (bOk h b && decide (nOf b ≤ 1000000000000), v4Read (bOf h b), h)
  | _ => none

theorem sRFour : SoundE Try.prog 35 (entF eRFour) := by
  refine canonV_sound fun args h v h' hg => ?_
  unfold eRFour at hg
  split at hg
  · rename_i b
    simp only [Option.some.injEq, Prod.mk.injEq, Bool.and_eq_true, decide_eq_true_eq] at hg
    obtain ⟨⟨hb, hn⟩, rfl, rfl⟩ := hg
    rw [← bOk_len hb] at hn
    refine ⟨rfl, rfl, [slB 0 (bOf h b)], [farB (bOf h b)], .cons _ _ _ _ _ _ _ (bOk_canon hb 0) (.nil _), ?_⟩
    exact Runs.valT0 tRFourOk (F := 100) (n := 4) (pr := []) (walkRFour _ hn)
  · simp at hg


end Go.Proofs.Ytnchnjkakddhlaa.L