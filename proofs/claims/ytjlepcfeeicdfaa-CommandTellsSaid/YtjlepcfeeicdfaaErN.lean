/- The reference's Encode: rows. -/
import Derived.Test.YtjlepcfeeicdfaaEnK
set_option autoImplicit false
set_option maxRecDepth 100000
set_option linter.unusedVariables false
set_option linter.unusedSimpArgs false
namespace Go.Proofs.Ytjlepcfeeicdfaa.L
open Go Go.Abs
open Go.IntKind (u8 u16 u32 u64 i64)
open Go.Abs.AV (int)
open Go.Abs.ABlk (cells)

noncomputable def tEr (Z : List UInt8) : Tbl := [(15, entF eValR), (17, entF (eRel RbR [(2, slB 2 Z, [ownB Z])]))]
theorem tErOk (Z : List UInt8) : ∀ f E, (tEr Z).find f = some E → SoundE Try.prog f E := find_cons sRVald (find_cons (sRb _) (find_nil _))
def plcX (cs : List AV) : List UInt8 := plcL (cs.take 17) (intV cs[17]?)
noncomputable def eRb : GEnt := fun args h => match args with
  | [.agg cs] => some (adrWf (cs.take 17) && (decide (cs.length = 18) && (isIntV .u16 cs[17]? && decide (0 ≤ intV cs[17]? ∧ intV cs[17]? < 65536))), .sl (some (h.length, 0)) (opq plcX cs).length 0 false, h ++ [ownB (opq plcX cs)])
  | _ => none
noncomputable def tEm : Tbl := [(15, entF eValR), (17, entF eRb)]
noncomputable abbrev ERL := loopIn (bodyOf Try.prog 11) 0
def mEr : List Bool := [false, true, true, true, true, true] ++ List.replicate 110 false
def vEr (p m : Nat) (i : Int) : List AV := [.ptr (some (1, 0)), .sl none 0 0 true, .bool false, .sl (some (p, 0)) m 0 false, .int .i64 i]
def boxE (k pr : Int) (w : Bool) (x : Nat → Int) (po : Int) (n : Nat) : ABlk := .cells (cmA k pr w x po (.sl (some (0, 0)) n 0 false)) 21 .own none
def hEr0 (C : List AV) (B : ABlk) (Z : List UInt8) : AHeap := [.cells C 19 .far none, B, .dead, .dead, .dead, .dead, ownB Z]
def hEr (C : List AV) (B : ABlk) (Z : List UInt8) : AHeap := [.cells C 19 .far none, B, .dead, .dead, .dead, .dead, .dead, ownB Z]
noncomputable def hErX0 (C : List AV) (n : Nat) (k pr : Int) (w : Bool) (x : Nat → Int) (po : Int) : AHeap := [ABlk.cells C 19 Md.far none, cells [int i64 k, b8 pr, AV.bool w, b8 (x 0), b8 (x 1), b8 (x 2), b8 (x 3), b8 (x 4), b8 (x 5), b8 (x 6), b8 (x 7), b8 (x 8), b8 (x 9), b8 (x 10), b8 (x 11), b8 (x 12), b8 (x 13), b8 (x 14), b8 (x 15), int u16 po, AV.sl (some (0, 0)) n 0 false] 21 Md.own none]
theorem nfErX {R : Type} (C : List AV) (n : Nat) (k pr : Int) (w : Bool) (x : Nat → Int) (po : Int) (K : AV → AHeap → Option R) :
 qrun Try.prog (tEr []) 100 4 [(27, .bool true)] [] 11 [.agg (cmA k pr w x po (.sl (some (0, 0)) n 0 false))] [.cells C 19 .far none] K =
 (if decide (intV (some (int i64 k)) < 1) = true then
 K (AV.tup [AV.sl none 0 0 true, AV.bool false]) ((hErX0 C n k pr w x po))
 else (if decide (intV (some (int i64 k)) > 5) = true then
 K (AV.tup [AV.sl none 0 0 true, AV.bool false]) ((hErX0 C n k pr w x po))
 else (if cdec (IsAdr (adF w x)) = true then
 (if (!opq (adrValid (adF w x))) = true then
 K (AV.tup [AV.sl none 0 0 true, AV.bool false]) ((hErX0 C n k pr w x po))
 else (if decide ((n : Int) > 255) = true then
 K (AV.tup [AV.sl none 0 0 true, AV.bool false]) ((hErX0 C n k pr w x po))
 else none))
 else none))) := by
  kernel_rfl

noncomputable def hErD0 (C : List AV) (n : Nat) (k pr : Int) (w : Bool) (x : Nat → Int) (po : Int) (Z : List UInt8) : AHeap := [ABlk.cells C 19 Md.far none, cells [int i64 k, b8 pr, AV.bool w, b8 (x 0), b8 (x 1), b8 (x 2), b8 (x 3), b8 (x 4), b8 (x 5), b8 (x 6), b8 (x 7), b8 (x 8), b8 (x 9), b8 (x 10), b8 (x 11), b8 (x 12), b8 (x 13), b8 (x 14), b8 (x 15), int u16 po, AV.sl (some (0, 0)) n 0 false] 21 Md.own none]
noncomputable def hErD1 (C : List AV) (n : Nat) (k pr : Int) (w : Bool) (x : Nat → Int) (po : Int) (Z : List UInt8) : AHeap := [cells (bys Z) 1 Md.own none]
noncomputable def hErD2 (C : List AV) (n : Nat) (k pr : Int) (w : Bool) (x : Nat → Int) (po : Int) (Z : List UInt8) : AHeap := [ABlk.cells C 19 Md.far none, cells [int i64 k, b8 pr, AV.bool w, b8 (x 0), b8 (x 1), b8 (x 2), b8 (x 3), b8 (x 4), b8 (x 5), b8 (x 6), b8 (x 7), b8 (x 8), b8 (x 9), b8 (x 10), b8 (x 11), b8 (x 12), b8 (x 13), b8 (x 14), b8 (x 15), int u16 po, AV.sl (some (0, 0)) n 0 false] 21 Md.own none, cells (bys Z) 1 Md.own none, cells [b8 (u8.wrap (intV (some (int i64 k)))), b8 (intV (some (b8 pr)))] 1 Md.ro none, cells ([b8 (u8.wrap (intV (some (int i64 k)))), b8 (intV (some (b8 pr)))] ++ List.take (Z.length * 1) (bys Z)) 1 Md.own (some 3)]
theorem nfErD {R : Type} (C : List AV) (n : Nat) (k pr : Int) (w : Bool) (x : Nat → Int) (po : Int) (Z : List UInt8) (K : AV → AHeap → Option R) :
 qrun Try.prog (tEr Z) 100 4 [(27, .bool false), (46, .bool true)] [] 11 [.agg (cmA k pr w x po (.sl (some (0, 0)) n 0 false))] [.cells C 19 .far none] K =
 (if decide (intV (some (int i64 k)) < 1) = true then
 none
 else (if decide (intV (some (int i64 k)) > 5) = true then
 none
 else (if cdec (IsAdr (adF w x)) = true then
 (if (!opq (adrValid (adF w x))) = true then
 none
 else (if decide ((n : Int) > 255) = false then
 (if cdec (RbR [AV.agg [AV.bool w, b8 (x 0), b8 (x 1), b8 (x 2), b8 (x 3), b8 (x 4), b8 (x 5), b8 (x 6), b8 (x 7), b8 (x 8), b8 (x 9), b8 (x 10), b8 (x 11), b8 (x 12), b8 (x 13), b8 (x 14), b8 (x 15), int u16 (intV (some (int u16 po)))]] (hErD0 C n k pr w x po Z) (AV.sl (some (2, 0)) Z.length 0 false) (hErD1 C n k pr w x po Z)) = true then
 (if 0 + Z.length * 1 ≤ (bys Z).length then
 (if (2 * (2 + Z.length) + 200) * 1 ≤ 281474976710656 ∧ some 1 = some 1 ∧ 2 + Z.length ≤ 70368744177664 then
 (if 0 = 0 ∧ 2 = [b8 (u8.wrap (intV (some (int i64 k)))), b8 (intV (some (b8 pr)))].length ∧ (0 < Z.length ∨ 0 = 0) ∧ 1 = 1 ∧ (List.take (Z.length * 1) (bys Z)).all AV.isCell = true then
 (if (int i64 (intV (some (int i64 k)))).beq (int i64 (intV (some (int i64 k)))) = true then
 (if (b8 (intV (some (b8 pr)))).beq (b8 (intV (some (b8 pr)))) = true then
 (if (intV (some (int i64 k)) == 2) = true then
 K (AV.tup [AV.sl (some (4, 0)) (2 + Z.length) 0 false, AV.bool ((n : Int) == 0)]) ((hErD2 C n k pr w x po Z))
 else none) else none) else none) else none) else none) else none) else none) else none))
 else none))) := by
  kernel_rfl

noncomputable def hErY0 (C : List AV) (n : Nat) (k pr : Int) (w : Bool) (x : Nat → Int) (po : Int) (Z : List UInt8) : AHeap := [ABlk.cells C 19 Md.far none, cells [int i64 k, b8 pr, AV.bool w, b8 (x 0), b8 (x 1), b8 (x 2), b8 (x 3), b8 (x 4), b8 (x 5), b8 (x 6), b8 (x 7), b8 (x 8), b8 (x 9), b8 (x 10), b8 (x 11), b8 (x 12), b8 (x 13), b8 (x 14), b8 (x 15), int u16 po, AV.sl (some (0, 0)) n 0 false] 21 Md.own none]
noncomputable def hErY1 (C : List AV) (n : Nat) (k pr : Int) (w : Bool) (x : Nat → Int) (po : Int) (Z : List UInt8) : AHeap := [cells (bys Z) 1 Md.own none]
noncomputable def hErY2 (C : List AV) (n : Nat) (k pr : Int) (w : Bool) (x : Nat → Int) (po : Int) (Z : List UInt8) : AHeap := [ABlk.cells C 19 Md.far none, cells [int i64 k, b8 pr, AV.bool w, b8 (x 0), b8 (x 1), b8 (x 2), b8 (x 3), b8 (x 4), b8 (x 5), b8 (x 6), b8 (x 7), b8 (x 8), b8 (x 9), b8 (x 10), b8 (x 11), b8 (x 12), b8 (x 13), b8 (x 14), b8 (x 15), int u16 po, AV.sl (some (0, 0)) n 0 false] 21 Md.own none, cells (bys Z) 1 Md.own none, cells [b8 (u8.wrap (intV (some (int i64 k)))), b8 (intV (some (b8 pr)))] 1 Md.ro none, cells ([b8 (u8.wrap (intV (some (int i64 k)))), b8 (intV (some (b8 pr)))] ++ List.take (Z.length * 1) (bys Z)) 1 Md.own (some 3)]
theorem nfErY {R : Type} (C : List AV) (n : Nat) (k pr : Int) (w : Bool) (x : Nat → Int) (po : Int) (Z : List UInt8) (K : AV → AHeap → Option R) :
 qrun Try.prog (tEr Z) 100 4 [(27, .bool false), (46, .bool false), (60, .bool true)] [] 11 [.agg (cmA k pr w x po (.sl (some (0, 0)) n 0 false))] [.cells C 19 .far none] K =
 (if decide (intV (some (int i64 k)) < 1) = true then
 none
 else (if decide (intV (some (int i64 k)) > 5) = true then
 none
 else (if cdec (IsAdr (adF w x)) = true then
 (if (!opq (adrValid (adF w x))) = true then
 none
 else (if decide ((n : Int) > 255) = false then
 (if cdec (RbR [AV.agg [AV.bool w, b8 (x 0), b8 (x 1), b8 (x 2), b8 (x 3), b8 (x 4), b8 (x 5), b8 (x 6), b8 (x 7), b8 (x 8), b8 (x 9), b8 (x 10), b8 (x 11), b8 (x 12), b8 (x 13), b8 (x 14), b8 (x 15), int u16 (intV (some (int u16 po)))]] (hErY0 C n k pr w x po Z) (AV.sl (some (2, 0)) Z.length 0 false) (hErY1 C n k pr w x po Z)) = true then
 (if 0 + Z.length * 1 ≤ (bys Z).length then
 (if (2 * (2 + Z.length) + 200) * 1 ≤ 281474976710656 ∧ some 1 = some 1 ∧ 2 + Z.length ≤ 70368744177664 then
 (if 0 = 0 ∧ 2 = [b8 (u8.wrap (intV (some (int i64 k)))), b8 (intV (some (b8 pr)))].length ∧ (0 < Z.length ∨ 0 = 0) ∧ 1 = 1 ∧ (List.take (Z.length * 1) (bys Z)).all AV.isCell = true then
 (if (int i64 (intV (some (int i64 k)))).beq (int i64 (intV (some (int i64 k)))) = true then
 (if (b8 (intV (some (b8 pr)))).beq (b8 (intV (some (b8 pr)))) = true then
 (if (intV (some (int i64 k)) == 2) = false then
 (if (intV (some (int i64 k)) != 1) = true then
 (if ((n : Int) != 1) = true then
 K (AV.tup [AV.sl none 0 0 true, AV.bool false]) ((hErY2 C n k pr w x po Z))
 else none) else none) else none) else none) else none) else none) else none) else none) else none) else none))
 else none))) := by
  kernel_rfl

noncomputable def hErL0 (C : List AV) (n : Nat) (k pr : Int) (w : Bool) (x : Nat → Int) (po : Int) (Z : List UInt8) (q : Prop) (vs0 : List AV) (h0 : AHeap) (p m : Nat) (h1 : AHeap) : AHeap := [ABlk.cells C 19 Md.far none, cells [int i64 k, b8 pr, AV.bool w, b8 (x 0), b8 (x 1), b8 (x 2), b8 (x 3), b8 (x 4), b8 (x 5), b8 (x 6), b8 (x 7), b8 (x 8), b8 (x 9), b8 (x 10), b8 (x 11), b8 (x 12), b8 (x 13), b8 (x 14), b8 (x 15), int u16 po, AV.sl (some (0, 0)) n 0 false] 21 Md.own none]
noncomputable def hErL1 (C : List AV) (n : Nat) (k pr : Int) (w : Bool) (x : Nat → Int) (po : Int) (Z : List UInt8) (q : Prop) (vs0 : List AV) (h0 : AHeap) (p m : Nat) (h1 : AHeap) : AHeap := [cells (bys Z) 1 Md.own none]
noncomputable def hErL2 (C : List AV) (n : Nat) (k pr : Int) (w : Bool) (x : Nat → Int) (po : Int) (Z : List UInt8) (q : Prop) (vs0 : List AV) (h0 : AHeap) (p m : Nat) (h1 : AHeap) : AHeap := [ABlk.cells C 19 Md.far none, cells [int i64 k, b8 pr, AV.bool w, b8 (x 0), b8 (x 1), b8 (x 2), b8 (x 3), b8 (x 4), b8 (x 5), b8 (x 6), b8 (x 7), b8 (x 8), b8 (x 9), b8 (x 10), b8 (x 11), b8 (x 12), b8 (x 13), b8 (x 14), b8 (x 15), int u16 po, AV.sl (some (0, 0)) n 0 false] 21 Md.own none, cells (bys Z) 1 Md.own none, ABlk.dead, cells ([b8 (u8.wrap (intV (some (int i64 k)))), b8 (intV (some (b8 pr)))] ++ List.take (Z.length * 1) (bys Z)) 1 Md.ro none, cells [b8 (u8.wrap (n : Int))] 1 Md.own none, cells (List.take ((2 + Z.length) * 1) ([b8 (u8.wrap (intV (some (int i64 k)))), b8 (intV (some (b8 pr)))] ++ List.take (Z.length * 1) (bys Z)) ++ [b8 (u8.wrap (n : Int))]) 1 Md.own (some 4)]
theorem nfErL {R : Type} (C : List AV) (n : Nat) (k pr : Int) (w : Bool) (x : Nat → Int) (po : Int) (Z : List UInt8) (q : Prop) (vs0 : List AV) (h0 : AHeap) (p m : Nat) (h1 : AHeap) (K : AV → AHeap → Option R) :
 qrun Try.prog (tEr Z) 100 4 [(27, .bool false), (46, .bool false), (60, .bool false)] [(10, fixC q mEr vs0 h0 (.exit 0) (vEr p m n) h1)] 11 [.agg (cmA k pr w x po (.sl (some (0, 0)) n 0 false))] [.cells C 19 .far none] K =
 (if decide (intV (some (int i64 k)) < 1) = true then
 none
 else (if decide (intV (some (int i64 k)) > 5) = true then
 none
 else (if cdec (IsAdr (adF w x)) = true then
 (if (!opq (adrValid (adF w x))) = true then
 none
 else (if decide ((n : Int) > 255) = false then
 (if cdec (RbR [AV.agg [AV.bool w, b8 (x 0), b8 (x 1), b8 (x 2), b8 (x 3), b8 (x 4), b8 (x 5), b8 (x 6), b8 (x 7), b8 (x 8), b8 (x 9), b8 (x 10), b8 (x 11), b8 (x 12), b8 (x 13), b8 (x 14), b8 (x 15), int u16 (intV (some (int u16 po)))]] (hErL0 C n k pr w x po Z q vs0 h0 p m h1) (AV.sl (some (2, 0)) Z.length 0 false) (hErL1 C n k pr w x po Z q vs0 h0 p m h1)) = true then
 (if 0 + Z.length * 1 ≤ (bys Z).length then
 (if (2 * (2 + Z.length) + 200) * 1 ≤ 281474976710656 ∧ some 1 = some 1 ∧ 2 + Z.length ≤ 70368744177664 then
 (if 0 = 0 ∧ 2 = [b8 (u8.wrap (intV (some (int i64 k)))), b8 (intV (some (b8 pr)))].length ∧ (0 < Z.length ∨ 0 = 0) ∧ 1 = 1 ∧ (List.take (Z.length * 1) (bys Z)).all AV.isCell = true then
 (if (int i64 (intV (some (int i64 k)))).beq (int i64 (intV (some (int i64 k)))) = true then
 (if (b8 (intV (some (b8 pr)))).beq (b8 (intV (some (b8 pr)))) = true then
 (if (intV (some (int i64 k)) == 2) = false then
 (if (intV (some (int i64 k)) != 1) = true then
 (if ((n : Int) != 1) = false then
 (if (2 * (2 + Z.length + 1) + 200) * 1 ≤ 281474976710656 ∧ some 1 = some 1 ∧ 2 + Z.length + 1 ≤ 70368744177664 then
 (if 0 + (2 + Z.length) * 1 ≤ ([b8 (u8.wrap (intV (some (int i64 k)))), b8 (intV (some (b8 pr)))] ++ List.take (Z.length * 1) (bys Z)).length then
 (if 0 = 0 ∧ 0 + (2 + Z.length) * 1 = ([b8 (u8.wrap (intV (some (int i64 k)))), b8 (intV (some (b8 pr)))] ++ List.take (Z.length * 1) (bys Z)).length ∧ (0 < 1 ∨ 0 = 0) ∧ 1 = 1 ∧ [b8 (u8.wrap (n : Int))].all AV.isCell = true then
 (if cdec (q ∧ [AV.ptr (some (1, 0)), AV.sl none 0 0 true, AV.bool false, AV.sl (some (6, 0)) (2 + Z.length + 1) 0 false, int i64 0] = vs0 ∧ (hErL2 C n k pr w x po Z q vs0 h0 p m h1) = h0) = true then
 K (AV.tup [AV.sl (some (p, 0)) m 0 false, AV.bool true]) (h1)
 else none) else none) else none) else none) else none)
 else (if (2 * (2 + Z.length + 1) + 200) * 1 ≤ 281474976710656 ∧ some 1 = some 1 ∧ 2 + Z.length + 1 ≤ 70368744177664 then
 (if 0 + (2 + Z.length) * 1 ≤ ([b8 (u8.wrap (intV (some (int i64 k)))), b8 (intV (some (b8 pr)))] ++ List.take (Z.length * 1) (bys Z)).length then
 (if 0 = 0 ∧ 0 + (2 + Z.length) * 1 = ([b8 (u8.wrap (intV (some (int i64 k)))), b8 (intV (some (b8 pr)))] ++ List.take (Z.length * 1) (bys Z)).length ∧ (0 < 1 ∨ 0 = 0) ∧ 1 = 1 ∧ [b8 (u8.wrap (n : Int))].all AV.isCell = true then
 (if cdec (q ∧ [AV.ptr (some (1, 0)), AV.sl none 0 0 true, AV.bool false, AV.sl (some (6, 0)) (2 + Z.length + 1) 0 false, int i64 0] = vs0 ∧ (hErL2 C n k pr w x po Z q vs0 h0 p m h1) = h0) = true then
 K (AV.tup [AV.sl (some (p, 0)) m 0 false, AV.bool true]) (h1)
 else none) else none) else none) else none))
 else none) else none) else none) else none) else none) else none) else none) else none))
 else none))) := by
  kernel_rfl

noncomputable def hErB0 (C : List AV) (n : Nat) (k pr : Int) (w : Bool) (x : Nat → Int) (po : Int) (Z : List UInt8) (q : Prop) (vs0 : List AV) (h0 : AHeap) (p m : Nat) (i : Int) (h1 : AHeap) : AHeap := [ABlk.cells C 19 Md.far none, cells [int i64 k, b8 pr, AV.bool w, b8 (x 0), b8 (x 1), b8 (x 2), b8 (x 3), b8 (x 4), b8 (x 5), b8 (x 6), b8 (x 7), b8 (x 8), b8 (x 9), b8 (x 10), b8 (x 11), b8 (x 12), b8 (x 13), b8 (x 14), b8 (x 15), int u16 po, AV.sl (some (0, 0)) n 0 false] 21 Md.own none]
noncomputable def hErB1 (C : List AV) (n : Nat) (k pr : Int) (w : Bool) (x : Nat → Int) (po : Int) (Z : List UInt8) (q : Prop) (vs0 : List AV) (h0 : AHeap) (p m : Nat) (i : Int) (h1 : AHeap) : AHeap := [cells (bys Z) 1 Md.own none]
noncomputable def hErB2 (C : List AV) (n : Nat) (k pr : Int) (w : Bool) (x : Nat → Int) (po : Int) (Z : List UInt8) (q : Prop) (vs0 : List AV) (h0 : AHeap) (p m : Nat) (i : Int) (h1 : AHeap) : AHeap := [ABlk.cells C 19 Md.far none, cells [int i64 k, b8 pr, AV.bool w, b8 (x 0), b8 (x 1), b8 (x 2), b8 (x 3), b8 (x 4), b8 (x 5), b8 (x 6), b8 (x 7), b8 (x 8), b8 (x 9), b8 (x 10), b8 (x 11), b8 (x 12), b8 (x 13), b8 (x 14), b8 (x 15), int u16 po, AV.sl (some (0, 0)) n 0 false] 21 Md.own none, cells (bys Z) 1 Md.own none, ABlk.dead, cells ([b8 (u8.wrap (intV (some (int i64 k)))), b8 (intV (some (b8 pr)))] ++ List.take (Z.length * 1) (bys Z)) 1 Md.ro none, cells [b8 (u8.wrap (n : Int))] 1 Md.own none, cells (List.take ((2 + Z.length) * 1) ([b8 (u8.wrap (intV (some (int i64 k)))), b8 (intV (some (b8 pr)))] ++ List.take (Z.length * 1) (bys Z)) ++ [b8 (u8.wrap (n : Int))]) 1 Md.own (some 4)]
theorem nfErB {R : Type} (C : List AV) (n : Nat) (k pr : Int) (w : Bool) (x : Nat → Int) (po : Int) (Z : List UInt8) (q : Prop) (vs0 : List AV) (h0 : AHeap) (p m : Nat) (i : Int) (h1 : AHeap) (K : AV → AHeap → Option R) :
 qrun Try.prog (tEr Z) 100 4 [(27, .bool false), (46, .bool false), (60, .bool false)] [(10, fixC q mEr vs0 h0 .ret (vEr p m i) h1)] 11 [.agg (cmA k pr w x po (.sl (some (0, 0)) n 0 false))] [.cells C 19 .far none] K =
 (if decide (intV (some (int i64 k)) < 1) = true then
 none
 else (if decide (intV (some (int i64 k)) > 5) = true then
 none
 else (if cdec (IsAdr (adF w x)) = true then
 (if (!opq (adrValid (adF w x))) = true then
 none
 else (if decide ((n : Int) > 255) = false then
 (if cdec (RbR [AV.agg [AV.bool w, b8 (x 0), b8 (x 1), b8 (x 2), b8 (x 3), b8 (x 4), b8 (x 5), b8 (x 6), b8 (x 7), b8 (x 8), b8 (x 9), b8 (x 10), b8 (x 11), b8 (x 12), b8 (x 13), b8 (x 14), b8 (x 15), int u16 (intV (some (int u16 po)))]] (hErB0 C n k pr w x po Z q vs0 h0 p m i h1) (AV.sl (some (2, 0)) Z.length 0 false) (hErB1 C n k pr w x po Z q vs0 h0 p m i h1)) = true then
 (if 0 + Z.length * 1 ≤ (bys Z).length then
 (if (2 * (2 + Z.length) + 200) * 1 ≤ 281474976710656 ∧ some 1 = some 1 ∧ 2 + Z.length ≤ 70368744177664 then
 (if 0 = 0 ∧ 2 = [b8 (u8.wrap (intV (some (int i64 k)))), b8 (intV (some (b8 pr)))].length ∧ (0 < Z.length ∨ 0 = 0) ∧ 1 = 1 ∧ (List.take (Z.length * 1) (bys Z)).all AV.isCell = true then
 (if (int i64 (intV (some (int i64 k)))).beq (int i64 (intV (some (int i64 k)))) = true then
 (if (b8 (intV (some (b8 pr)))).beq (b8 (intV (some (b8 pr)))) = true then
 (if (intV (some (int i64 k)) == 2) = false then
 (if (intV (some (int i64 k)) != 1) = true then
 (if ((n : Int) != 1) = false then
 (if (2 * (2 + Z.length + 1) + 200) * 1 ≤ 281474976710656 ∧ some 1 = some 1 ∧ 2 + Z.length + 1 ≤ 70368744177664 then
 (if 0 + (2 + Z.length) * 1 ≤ ([b8 (u8.wrap (intV (some (int i64 k)))), b8 (intV (some (b8 pr)))] ++ List.take (Z.length * 1) (bys Z)).length then
 (if 0 = 0 ∧ 0 + (2 + Z.length) * 1 = ([b8 (u8.wrap (intV (some (int i64 k)))), b8 (intV (some (b8 pr)))] ++ List.take (Z.length * 1) (bys Z)).length ∧ (0 < 1 ∨ 0 = 0) ∧ 1 = 1 ∧ [b8 (u8.wrap (n : Int))].all AV.isCell = true then
 (if cdec (q ∧ [AV.ptr (some (1, 0)), AV.sl none 0 0 true, AV.bool false, AV.sl (some (6, 0)) (2 + Z.length + 1) 0 false, int i64 0] = vs0 ∧ (hErB2 C n k pr w x po Z q vs0 h0 p m i h1) = h0) = true then
 K (AV.tup [AV.sl none 0 0 true, AV.bool false]) (h1)
 else none) else none) else none) else none) else none)
 else (if (2 * (2 + Z.length + 1) + 200) * 1 ≤ 281474976710656 ∧ some 1 = some 1 ∧ 2 + Z.length + 1 ≤ 70368744177664 then
 (if 0 + (2 + Z.length) * 1 ≤ ([b8 (u8.wrap (intV (some (int i64 k)))), b8 (intV (some (b8 pr)))] ++ List.take (Z.length * 1) (bys Z)).length then
 (if 0 = 0 ∧ 0 + (2 + Z.length) * 1 = ([b8 (u8.wrap (intV (some (int i64 k)))), b8 (intV (some (b8 pr)))] ++ List.take (Z.length * 1) (bys Z)).length ∧ (0 < 1 ∨ 0 = 0) ∧ 1 = 1 ∧ [b8 (u8.wrap (n : Int))].all AV.isCell = true then
 (if cdec (q ∧ [AV.ptr (some (1, 0)), AV.sl none 0 0 true, AV.bool false, AV.sl (some (6, 0)) (2 + Z.length + 1) 0 false, int i64 0] = vs0 ∧ (hErB2 C n k pr w x po Z q vs0 h0 p m i h1) = h0) = true then
 K (AV.tup [AV.sl none 0 0 true, AV.bool false]) (h1)
 else none) else none) else none) else none))
 else none) else none) else none) else none) else none) else none) else none) else none))
 else none))) := by
  kernel_rfl

noncomputable def hEra0 (C : List AV) (k pr : Int) (w : Bool) (x : Nat → Int) (po : Int) (Z : List UInt8) (n : Nat) (i : Int) : AHeap := [ABlk.cells C 19 Md.far none, cells [int i64 k, b8 pr, AV.bool w, b8 (x 0), b8 (x 1), b8 (x 2), b8 (x 3), b8 (x 4), b8 (x 5), b8 (x 6), b8 (x 7), b8 (x 8), b8 (x 9), b8 (x 10), b8 (x 11), b8 (x 12), b8 (x 13), b8 (x 14), b8 (x 15), int u16 po, AV.sl (some (0, 0)) n 0 false] 21 Md.own none, ABlk.dead, ABlk.dead, ABlk.dead, ABlk.dead, ABlk.dead, cells (memC C i) 19 Md.own none, cells (bys (opq plcX (List.take 18 (memC C i)))) 1 Md.own none, cells (List.take (Z.length * 1) (bys Z) ++ List.take ((opq plcX (List.take 18 (memC C i))).length * 1) (bys (opq plcX (List.take 18 (memC C i))))) 1 Md.ro none, cells [b8 (u8.wrap (intV (memC C i)[18]?))] 1 Md.own none, cells (List.take ((Z.length + (opq plcX (List.take 18 (memC C i))).length) * 1) (List.take (Z.length * 1) (bys Z) ++ List.take ((opq plcX (List.take 18 (memC C i))).length * 1) (bys (opq plcX (List.take 18 (memC C i))))) ++ [b8 (u8.wrap (intV (memC C i)[18]?))]) 1 Md.own (some 9)]
theorem nfEra (C : List AV) (k pr : Int) (w : Bool) (x : Nat → Int) (po : Int) (Z : List UInt8) (n : Nat) (i : Int) :
 qround Try.prog tEm 100 4 [(72, .bool true), (104, .bool false)] noT ERL mEr (vEr 6 Z.length i) (hEr0 C (boxE k pr w x po n) Z) =
 (if decide (i < (n : Int)) = true then
 (if 0 ≤ i ∧ i < (n : Int) then
 (if 0 + i.toNat * 19 + 19 ≤ C.length then
 (if (List.take 19 (List.drop (0 + i.toNat * 19) C)).length = 19 then
 (if 0 + (List.take 19 (List.drop (0 + i.toNat * 19) C)).length ≤ 19 ∧ (List.take 19 (List.drop (0 + i.toNat * 19) C)).all AV.isCell = true then
 (if 17 ≤ (memC C i).length then
 (if cdec (IsAdr (List.take 17 (memC C i))) = true then
 (if (!opq (adrValid (List.take 17 (memC C i)))) = true then
 none
 else (if isIntV i64 (memC C i)[18]? = true then
 (if decide (intV (memC C i)[18]? < 0) = true then
 none
 else (if isIntV i64 (memC C i)[18]? = true then
 (if decide (intV (memC C i)[18]? > 255) = true then
 none
 else (if (intV (some (int i64 k)) == 4) = true then
 (if isIntV i64 (memC C i)[18]? = true then
 (if (intV (memC C i)[18]? != 0) = false then
 (if 18 ≤ (memC C i).length then
 (if (adrWf (List.take 17 (List.take 18 (memC C i))) && (decide ((List.take 18 (memC C i)).length = 18) && (isIntV u16 (List.take 18 (memC C i))[17]? && decide (0 ≤ intV (List.take 18 (memC C i))[17]? ∧ intV (List.take 18 (memC C i))[17]? < 65536)))) = true then
 (if 0 + (opq plcX (List.take 18 (memC C i))).length * 1 ≤ (bys (opq plcX (List.take 18 (memC C i)))).length then
 (if (2 * (Z.length + (opq plcX (List.take 18 (memC C i))).length) + 200) * 1 ≤ 281474976710656 ∧ some 1 = some 1 ∧ Z.length + (opq plcX (List.take 18 (memC C i))).length ≤ 70368744177664 then
 (if 0 + Z.length * 1 ≤ (bys Z).length then
 (if 0 = 0 ∧ 0 + Z.length * 1 = (bys Z).length ∧ (0 < (opq plcX (List.take 18 (memC C i))).length ∨ 0 = 0) ∧ 1 = 1 ∧ (List.take ((opq plcX (List.take 18 (memC C i))).length * 1) (bys (opq plcX (List.take 18 (memC C i))))).all AV.isCell = true then
 (if isIntV i64 (memC C i)[18]? = true then
 (if (2 * (Z.length + (opq plcX (List.take 18 (memC C i))).length + 1) + 200) * 1 ≤ 281474976710656 ∧ some 1 = some 1 ∧ Z.length + (opq plcX (List.take 18 (memC C i))).length + 1 ≤ 70368744177664 then
 (if 0 + (Z.length + (opq plcX (List.take 18 (memC C i))).length) * 1 ≤ (List.take (Z.length * 1) (bys Z) ++ List.take ((opq plcX (List.take 18 (memC C i))).length * 1) (bys (opq plcX (List.take 18 (memC C i))))).length then
 (if 0 = 0 ∧ 0 + (Z.length + (opq plcX (List.take 18 (memC C i))).length) * 1 = (List.take (Z.length * 1) (bys Z) ++ List.take ((opq plcX (List.take 18 (memC C i))).length * 1) (bys (opq plcX (List.take 18 (memC C i))))).length ∧ (0 < 1 ∨ 0 = 0) ∧ 1 = 1 ∧ [b8 (u8.wrap (intV (memC C i)[18]?))].all AV.isCell = true then
 (if isIntV i64 (memC C i)[18]? = true then
 (if (int i64 (intV (memC C i)[18]?)).beq (int i64 (intV (memC C i)[18]?)) = true then
 (if isIntV i64 (memC C i)[18]? = true then
 (if (int i64 (intV (memC C i)[18]?)).beq (int i64 (intV (memC C i)[18]?)) = true then
 some ((AEx.norm, [AV.ptr (some (1, 0)), AV.sl none 0 0 true, AV.bool false, AV.sl (some (11, 0)) (Z.length + (opq plcX (List.take 18 (memC C i))).length + 1) 0 false, int i64 (i64.wrap (i + 1))], (hEra0 C k pr w x po Z n i)))
 else none) else none) else none) else none) else none) else none) else none) else none) else none) else none) else none) else none) else none) else none) else none) else none)
 else (if 18 ≤ (memC C i).length then
 (if (adrWf (List.take 17 (List.take 18 (memC C i))) && (decide ((List.take 18 (memC C i)).length = 18) && (isIntV u16 (List.take 18 (memC C i))[17]? && decide (0 ≤ intV (List.take 18 (memC C i))[17]? ∧ intV (List.take 18 (memC C i))[17]? < 65536)))) = true then
 (if 0 + (opq plcX (List.take 18 (memC C i))).length * 1 ≤ (bys (opq plcX (List.take 18 (memC C i)))).length then
 (if (2 * (Z.length + (opq plcX (List.take 18 (memC C i))).length) + 200) * 1 ≤ 281474976710656 ∧ some 1 = some 1 ∧ Z.length + (opq plcX (List.take 18 (memC C i))).length ≤ 70368744177664 then
 (if 0 + Z.length * 1 ≤ (bys Z).length then
 (if 0 = 0 ∧ 0 + Z.length * 1 = (bys Z).length ∧ (0 < (opq plcX (List.take 18 (memC C i))).length ∨ 0 = 0) ∧ 1 = 1 ∧ (List.take ((opq plcX (List.take 18 (memC C i))).length * 1) (bys (opq plcX (List.take 18 (memC C i))))).all AV.isCell = true then
 (if isIntV i64 (memC C i)[18]? = true then
 (if (2 * (Z.length + (opq plcX (List.take 18 (memC C i))).length + 1) + 200) * 1 ≤ 281474976710656 ∧ some 1 = some 1 ∧ Z.length + (opq plcX (List.take 18 (memC C i))).length + 1 ≤ 70368744177664 then
 (if 0 + (Z.length + (opq plcX (List.take 18 (memC C i))).length) * 1 ≤ (List.take (Z.length * 1) (bys Z) ++ List.take ((opq plcX (List.take 18 (memC C i))).length * 1) (bys (opq plcX (List.take 18 (memC C i))))).length then
 (if 0 = 0 ∧ 0 + (Z.length + (opq plcX (List.take 18 (memC C i))).length) * 1 = (List.take (Z.length * 1) (bys Z) ++ List.take ((opq plcX (List.take 18 (memC C i))).length * 1) (bys (opq plcX (List.take 18 (memC C i))))).length ∧ (0 < 1 ∨ 0 = 0) ∧ 1 = 1 ∧ [b8 (u8.wrap (intV (memC C i)[18]?))].all AV.isCell = true then
 (if isIntV i64 (memC C i)[18]? = true then
 (if (int i64 (intV (memC C i)[18]?)).beq (int i64 (intV (memC C i)[18]?)) = true then
 (if isIntV i64 (memC C i)[18]? = true then
 (if (int i64 (intV (memC C i)[18]?)).beq (int i64 (intV (memC C i)[18]?)) = true then
 some ((AEx.norm, [AV.ptr (some (1, 0)), AV.sl none 0 0 true, AV.bool false, AV.sl (some (11, 0)) (Z.length + (opq plcX (List.take 18 (memC C i))).length + 1) 0 false, int i64 (i64.wrap (i + 1))], (hEra0 C k pr w x po Z n i)))
 else none) else none) else none) else none) else none) else none) else none) else none) else none) else none) else none) else none) else none) else none)))
 else none))
 else none))
 else none) else none) else none) else none) else none) else none) else none) := by
  kernel_rfl

noncomputable def hErba0 (C : List AV) (k pr : Int) (w : Bool) (x : Nat → Int) (po : Int) (Z : List UInt8) (n : Nat) (i : Int) : AHeap := [ABlk.cells C 19 Md.far none, cells [int i64 k, b8 pr, AV.bool w, b8 (x 0), b8 (x 1), b8 (x 2), b8 (x 3), b8 (x 4), b8 (x 5), b8 (x 6), b8 (x 7), b8 (x 8), b8 (x 9), b8 (x 10), b8 (x 11), b8 (x 12), b8 (x 13), b8 (x 14), b8 (x 15), int u16 po, AV.sl (some (0, 0)) n 0 false] 21 Md.own none, ABlk.dead, ABlk.dead, ABlk.dead, ABlk.dead, cells (bys Z) 1 Md.own none, cells (memC C i) 19 Md.own none]
theorem nfErba (C : List AV) (k pr : Int) (w : Bool) (x : Nat → Int) (po : Int) (Z : List UInt8) (n : Nat) (i : Int) :
 qround Try.prog tEm 100 4 [(72, .bool true), (104, .bool true)] noT ERL mEr (vEr 6 Z.length i) (hEr0 C (boxE k pr w x po n) Z) =
 (if decide (i < (n : Int)) = true then
 (if 0 ≤ i ∧ i < (n : Int) then
 (if 0 + i.toNat * 19 + 19 ≤ C.length then
 (if (List.take 19 (List.drop (0 + i.toNat * 19) C)).length = 19 then
 (if 0 + (List.take 19 (List.drop (0 + i.toNat * 19) C)).length ≤ 19 ∧ (List.take 19 (List.drop (0 + i.toNat * 19) C)).all AV.isCell = true then
 (if 17 ≤ (memC C i).length then
 (if cdec (IsAdr (List.take 17 (memC C i))) = true then
 (if (!opq (adrValid (List.take 17 (memC C i)))) = true then
 some ((AEx.ret, [AV.ptr (some (1, 0)), AV.sl none 0 0 true, AV.bool false, AV.sl (some (6, 0)) Z.length 0 false, int i64 i], (hErba0 C k pr w x po Z n i)))
 else (if isIntV i64 (memC C i)[18]? = true then
 (if decide (intV (memC C i)[18]? < 0) = true then
 some ((AEx.ret, [AV.ptr (some (1, 0)), AV.sl none 0 0 true, AV.bool false, AV.sl (some (6, 0)) Z.length 0 false, int i64 i], (hErba0 C k pr w x po Z n i)))
 else (if isIntV i64 (memC C i)[18]? = true then
 (if decide (intV (memC C i)[18]? > 255) = true then
 some ((AEx.ret, [AV.ptr (some (1, 0)), AV.sl none 0 0 true, AV.bool false, AV.sl (some (6, 0)) Z.length 0 false, int i64 i], (hErba0 C k pr w x po Z n i)))
 else (if (intV (some (int i64 k)) == 4) = true then
 (if isIntV i64 (memC C i)[18]? = true then
 (if (intV (memC C i)[18]? != 0) = true then
 some ((AEx.ret, [AV.ptr (some (1, 0)), AV.sl none 0 0 true, AV.bool false, AV.sl (some (6, 0)) Z.length 0 false, int i64 i], (hErba0 C k pr w x po Z n i)))
 else none) else none) else none))
 else none))
 else none))
 else none) else none) else none) else none) else none) else none) else none) := by
  kernel_rfl

noncomputable def hErsa0 (C : List AV) (k pr : Int) (w : Bool) (x : Nat → Int) (po : Int) (Z : List UInt8) (n : Nat) (i : Int) : AHeap := [ABlk.cells C 19 Md.far none, cells [int i64 k, b8 pr, AV.bool w, b8 (x 0), b8 (x 1), b8 (x 2), b8 (x 3), b8 (x 4), b8 (x 5), b8 (x 6), b8 (x 7), b8 (x 8), b8 (x 9), b8 (x 10), b8 (x 11), b8 (x 12), b8 (x 13), b8 (x 14), b8 (x 15), int u16 po, AV.sl (some (0, 0)) n 0 false] 21 Md.own none, ABlk.dead, ABlk.dead, ABlk.dead, ABlk.dead, cells (bys Z) 1 Md.own none]
theorem nfErsa (C : List AV) (k pr : Int) (w : Bool) (x : Nat → Int) (po : Int) (Z : List UInt8) (n : Nat) (i : Int) :
 qround Try.prog tEm 100 4 [(72, .bool false)] noT ERL mEr (vEr 6 Z.length i) (hEr0 C (boxE k pr w x po n) Z) =
 (if decide (i < (n : Int)) = false then
 some ((AEx.exit 0, [AV.ptr (some (1, 0)), AV.sl none 0 0 true, AV.bool false, AV.sl (some (6, 0)) Z.length 0 false, int i64 i], (hErsa0 C k pr w x po Z n i)))
 else none) := by
  kernel_rfl

noncomputable def hErb0 (C : List AV) (k pr : Int) (w : Bool) (x : Nat → Int) (po : Int) (Z : List UInt8) (n : Nat) (i : Int) : AHeap := [ABlk.cells C 19 Md.far none, cells [int i64 k, b8 pr, AV.bool w, b8 (x 0), b8 (x 1), b8 (x 2), b8 (x 3), b8 (x 4), b8 (x 5), b8 (x 6), b8 (x 7), b8 (x 8), b8 (x 9), b8 (x 10), b8 (x 11), b8 (x 12), b8 (x 13), b8 (x 14), b8 (x 15), int u16 po, AV.sl (some (0, 0)) n 0 false] 21 Md.own none, ABlk.dead, ABlk.dead, ABlk.dead, ABlk.dead, ABlk.dead, ABlk.dead, cells (memC C i) 19 Md.own none, cells (bys (opq plcX (List.take 18 (memC C i)))) 1 Md.own none, cells (List.take (Z.length * 1) (bys Z) ++ List.take ((opq plcX (List.take 18 (memC C i))).length * 1) (bys (opq plcX (List.take 18 (memC C i))))) 1 Md.ro none, cells [b8 (u8.wrap (intV (memC C i)[18]?))] 1 Md.own none, cells (List.take ((Z.length + (opq plcX (List.take 18 (memC C i))).length) * 1) (List.take (Z.length * 1) (bys Z) ++ List.take ((opq plcX (List.take 18 (memC C i))).length * 1) (bys (opq plcX (List.take 18 (memC C i))))) ++ [b8 (u8.wrap (intV (memC C i)[18]?))]) 1 Md.own (some 10)]
theorem nfErb (C : List AV) (k pr : Int) (w : Bool) (x : Nat → Int) (po : Int) (Z : List UInt8) (n : Nat) (i : Int) :
 qround Try.prog tEm 100 4 [(72, .bool true), (104, .bool false)] noT ERL mEr (vEr 7 Z.length i) (hEr C (boxE k pr w x po n) Z) =
 (if decide (i < (n : Int)) = true then
 (if 0 ≤ i ∧ i < (n : Int) then
 (if 0 + i.toNat * 19 + 19 ≤ C.length then
 (if (List.take 19 (List.drop (0 + i.toNat * 19) C)).length = 19 then
 (if 0 + (List.take 19 (List.drop (0 + i.toNat * 19) C)).length ≤ 19 ∧ (List.take 19 (List.drop (0 + i.toNat * 19) C)).all AV.isCell = true then
 (if 17 ≤ (memC C i).length then
 (if cdec (IsAdr (List.take 17 (memC C i))) = true then
 (if (!opq (adrValid (List.take 17 (memC C i)))) = true then
 none
 else (if isIntV i64 (memC C i)[18]? = true then
 (if decide (intV (memC C i)[18]? < 0) = true then
 none
 else (if isIntV i64 (memC C i)[18]? = true then
 (if decide (intV (memC C i)[18]? > 255) = true then
 none
 else (if (intV (some (int i64 k)) == 4) = true then
 (if isIntV i64 (memC C i)[18]? = true then
 (if (intV (memC C i)[18]? != 0) = false then
 (if 18 ≤ (memC C i).length then
 (if (adrWf (List.take 17 (List.take 18 (memC C i))) && (decide ((List.take 18 (memC C i)).length = 18) && (isIntV u16 (List.take 18 (memC C i))[17]? && decide (0 ≤ intV (List.take 18 (memC C i))[17]? ∧ intV (List.take 18 (memC C i))[17]? < 65536)))) = true then
 (if 0 + (opq plcX (List.take 18 (memC C i))).length * 1 ≤ (bys (opq plcX (List.take 18 (memC C i)))).length then
 (if (2 * (Z.length + (opq plcX (List.take 18 (memC C i))).length) + 200) * 1 ≤ 281474976710656 ∧ some 1 = some 1 ∧ Z.length + (opq plcX (List.take 18 (memC C i))).length ≤ 70368744177664 then
 (if 0 + Z.length * 1 ≤ (bys Z).length then
 (if 0 = 0 ∧ 0 + Z.length * 1 = (bys Z).length ∧ (0 < (opq plcX (List.take 18 (memC C i))).length ∨ 0 = 0) ∧ 1 = 1 ∧ (List.take ((opq plcX (List.take 18 (memC C i))).length * 1) (bys (opq plcX (List.take 18 (memC C i))))).all AV.isCell = true then
 (if isIntV i64 (memC C i)[18]? = true then
 (if (2 * (Z.length + (opq plcX (List.take 18 (memC C i))).length + 1) + 200) * 1 ≤ 281474976710656 ∧ some 1 = some 1 ∧ Z.length + (opq plcX (List.take 18 (memC C i))).length + 1 ≤ 70368744177664 then
 (if 0 + (Z.length + (opq plcX (List.take 18 (memC C i))).length) * 1 ≤ (List.take (Z.length * 1) (bys Z) ++ List.take ((opq plcX (List.take 18 (memC C i))).length * 1) (bys (opq plcX (List.take 18 (memC C i))))).length then
 (if 0 = 0 ∧ 0 + (Z.length + (opq plcX (List.take 18 (memC C i))).length) * 1 = (List.take (Z.length * 1) (bys Z) ++ List.take ((opq plcX (List.take 18 (memC C i))).length * 1) (bys (opq plcX (List.take 18 (memC C i))))).length ∧ (0 < 1 ∨ 0 = 0) ∧ 1 = 1 ∧ [b8 (u8.wrap (intV (memC C i)[18]?))].all AV.isCell = true then
 (if isIntV i64 (memC C i)[18]? = true then
 (if (int i64 (intV (memC C i)[18]?)).beq (int i64 (intV (memC C i)[18]?)) = true then
 (if isIntV i64 (memC C i)[18]? = true then
 (if (int i64 (intV (memC C i)[18]?)).beq (int i64 (intV (memC C i)[18]?)) = true then
 some ((AEx.norm, [AV.ptr (some (1, 0)), AV.sl none 0 0 true, AV.bool false, AV.sl (some (12, 0)) (Z.length + (opq plcX (List.take 18 (memC C i))).length + 1) 0 false, int i64 (i64.wrap (i + 1))], (hErb0 C k pr w x po Z n i)))
 else none) else none) else none) else none) else none) else none) else none) else none) else none) else none) else none) else none) else none) else none) else none) else none)
 else (if 18 ≤ (memC C i).length then
 (if (adrWf (List.take 17 (List.take 18 (memC C i))) && (decide ((List.take 18 (memC C i)).length = 18) && (isIntV u16 (List.take 18 (memC C i))[17]? && decide (0 ≤ intV (List.take 18 (memC C i))[17]? ∧ intV (List.take 18 (memC C i))[17]? < 65536)))) = true then
 (if 0 + (opq plcX (List.take 18 (memC C i))).length * 1 ≤ (bys (opq plcX (List.take 18 (memC C i)))).length then
 (if (2 * (Z.length + (opq plcX (List.take 18 (memC C i))).length) + 200) * 1 ≤ 281474976710656 ∧ some 1 = some 1 ∧ Z.length + (opq plcX (List.take 18 (memC C i))).length ≤ 70368744177664 then
 (if 0 + Z.length * 1 ≤ (bys Z).length then
 (if 0 = 0 ∧ 0 + Z.length * 1 = (bys Z).length ∧ (0 < (opq plcX (List.take 18 (memC C i))).length ∨ 0 = 0) ∧ 1 = 1 ∧ (List.take ((opq plcX (List.take 18 (memC C i))).length * 1) (bys (opq plcX (List.take 18 (memC C i))))).all AV.isCell = true then
 (if isIntV i64 (memC C i)[18]? = true then
 (if (2 * (Z.length + (opq plcX (List.take 18 (memC C i))).length + 1) + 200) * 1 ≤ 281474976710656 ∧ some 1 = some 1 ∧ Z.length + (opq plcX (List.take 18 (memC C i))).length + 1 ≤ 70368744177664 then
 (if 0 + (Z.length + (opq plcX (List.take 18 (memC C i))).length) * 1 ≤ (List.take (Z.length * 1) (bys Z) ++ List.take ((opq plcX (List.take 18 (memC C i))).length * 1) (bys (opq plcX (List.take 18 (memC C i))))).length then
 (if 0 = 0 ∧ 0 + (Z.length + (opq plcX (List.take 18 (memC C i))).length) * 1 = (List.take (Z.length * 1) (bys Z) ++ List.take ((opq plcX (List.take 18 (memC C i))).length * 1) (bys (opq plcX (List.take 18 (memC C i))))).length ∧ (0 < 1 ∨ 0 = 0) ∧ 1 = 1 ∧ [b8 (u8.wrap (intV (memC C i)[18]?))].all AV.isCell = true then
 (if isIntV i64 (memC C i)[18]? = true then
 (if (int i64 (intV (memC C i)[18]?)).beq (int i64 (intV (memC C i)[18]?)) = true then
 (if isIntV i64 (memC C i)[18]? = true then
 (if (int i64 (intV (memC C i)[18]?)).beq (int i64 (intV (memC C i)[18]?)) = true then
 some ((AEx.norm, [AV.ptr (some (1, 0)), AV.sl none 0 0 true, AV.bool false, AV.sl (some (12, 0)) (Z.length + (opq plcX (List.take 18 (memC C i))).length + 1) 0 false, int i64 (i64.wrap (i + 1))], (hErb0 C k pr w x po Z n i)))
 else none) else none) else none) else none) else none) else none) else none) else none) else none) else none) else none) else none) else none) else none)))
 else none))
 else none))
 else none) else none) else none) else none) else none) else none) else none) := by
  kernel_rfl

noncomputable def hErbb0 (C : List AV) (k pr : Int) (w : Bool) (x : Nat → Int) (po : Int) (Z : List UInt8) (n : Nat) (i : Int) : AHeap := [ABlk.cells C 19 Md.far none, cells [int i64 k, b8 pr, AV.bool w, b8 (x 0), b8 (x 1), b8 (x 2), b8 (x 3), b8 (x 4), b8 (x 5), b8 (x 6), b8 (x 7), b8 (x 8), b8 (x 9), b8 (x 10), b8 (x 11), b8 (x 12), b8 (x 13), b8 (x 14), b8 (x 15), int u16 po, AV.sl (some (0, 0)) n 0 false] 21 Md.own none, ABlk.dead, ABlk.dead, ABlk.dead, ABlk.dead, ABlk.dead, cells (bys Z) 1 Md.own none, cells (memC C i) 19 Md.own none]
theorem nfErbb (C : List AV) (k pr : Int) (w : Bool) (x : Nat → Int) (po : Int) (Z : List UInt8) (n : Nat) (i : Int) :
 qround Try.prog tEm 100 4 [(72, .bool true), (104, .bool true)] noT ERL mEr (vEr 7 Z.length i) (hEr C (boxE k pr w x po n) Z) =
 (if decide (i < (n : Int)) = true then
 (if 0 ≤ i ∧ i < (n : Int) then
 (if 0 + i.toNat * 19 + 19 ≤ C.length then
 (if (List.take 19 (List.drop (0 + i.toNat * 19) C)).length = 19 then
 (if 0 + (List.take 19 (List.drop (0 + i.toNat * 19) C)).length ≤ 19 ∧ (List.take 19 (List.drop (0 + i.toNat * 19) C)).all AV.isCell = true then
 (if 17 ≤ (memC C i).length then
 (if cdec (IsAdr (List.take 17 (memC C i))) = true then
 (if (!opq (adrValid (List.take 17 (memC C i)))) = true then
 some ((AEx.ret, [AV.ptr (some (1, 0)), AV.sl none 0 0 true, AV.bool false, AV.sl (some (7, 0)) Z.length 0 false, int i64 i], (hErbb0 C k pr w x po Z n i)))
 else (if isIntV i64 (memC C i)[18]? = true then
 (if decide (intV (memC C i)[18]? < 0) = true then
 some ((AEx.ret, [AV.ptr (some (1, 0)), AV.sl none 0 0 true, AV.bool false, AV.sl (some (7, 0)) Z.length 0 false, int i64 i], (hErbb0 C k pr w x po Z n i)))
 else (if isIntV i64 (memC C i)[18]? = true then
 (if decide (intV (memC C i)[18]? > 255) = true then
 some ((AEx.ret, [AV.ptr (some (1, 0)), AV.sl none 0 0 true, AV.bool false, AV.sl (some (7, 0)) Z.length 0 false, int i64 i], (hErbb0 C k pr w x po Z n i)))
 else (if (intV (some (int i64 k)) == 4) = true then
 (if isIntV i64 (memC C i)[18]? = true then
 (if (intV (memC C i)[18]? != 0) = true then
 some ((AEx.ret, [AV.ptr (some (1, 0)), AV.sl none 0 0 true, AV.bool false, AV.sl (some (7, 0)) Z.length 0 false, int i64 i], (hErbb0 C k pr w x po Z n i)))
 else none) else none) else none))
 else none))
 else none))
 else none) else none) else none) else none) else none) else none) else none) := by
  kernel_rfl

noncomputable def hErsb0 (C : List AV) (k pr : Int) (w : Bool) (x : Nat → Int) (po : Int) (Z : List UInt8) (n : Nat) (i : Int) : AHeap := [ABlk.cells C 19 Md.far none, cells [int i64 k, b8 pr, AV.bool w, b8 (x 0), b8 (x 1), b8 (x 2), b8 (x 3), b8 (x 4), b8 (x 5), b8 (x 6), b8 (x 7), b8 (x 8), b8 (x 9), b8 (x 10), b8 (x 11), b8 (x 12), b8 (x 13), b8 (x 14), b8 (x 15), int u16 po, AV.sl (some (0, 0)) n 0 false] 21 Md.own none, ABlk.dead, ABlk.dead, ABlk.dead, ABlk.dead, ABlk.dead, cells (bys Z) 1 Md.own none]
theorem nfErsb (C : List AV) (k pr : Int) (w : Bool) (x : Nat → Int) (po : Int) (Z : List UInt8) (n : Nat) (i : Int) :
 qround Try.prog tEm 100 4 [(72, .bool false)] noT ERL mEr (vEr 7 Z.length i) (hEr C (boxE k pr w x po n) Z) =
 (if decide (i < (n : Int)) = false then
 some ((AEx.exit 0, [AV.ptr (some (1, 0)), AV.sl none 0 0 true, AV.bool false, AV.sl (some (7, 0)) Z.length 0 false, int i64 i], (hErsb0 C k pr w x po Z n i)))
 else none) := by
  kernel_rfl


end Go.Proofs.Ytjlepcfeeicdfaa.L
