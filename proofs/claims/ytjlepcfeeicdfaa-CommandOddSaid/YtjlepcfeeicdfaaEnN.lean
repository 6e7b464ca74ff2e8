/- command.Encode: rows. -/
import Derived.Test.YtjlepcfeeicdfaaMyK
set_option autoImplicit false
set_option maxRecDepth 100000
set_option linter.unusedVariables false
set_option linter.unusedSimpArgs false
namespace Go.Proofs.Ytjlepcfeeicdfaa.L
open Go Go.Abs
open Go.IntKind (u8 u16 u32 u64 i64)
open Go.Abs.AV (int)
open Go.Abs.ABlk (cells)

noncomputable def tEn (b : Bool) (Z : List UInt8) : Tbl := [(25, entF (eRel MyR [(2, .bool b, [])])), (27, entF (eRel PcR [(2, slB 2 Z, [ownB Z])]))]
theorem tEnOk (b : Bool) (Z : List UInt8) : ∀ f E, (tEn b Z).find f = some E → SoundE Try.prog f E := find_cons (sMy _) (find_cons (sPc _) (find_nil _))
noncomputable def ePc : GEnt := fun args h => match args with
  | [.agg cs, .int .u16 po] => some (adrWf cs && decide (0 ≤ po ∧ po < 65536), .sl (some (h.length, 0)) (opq plcL cs po).length 0 false, h ++ [ownB (opq plcL cs po)])
  | _ => none
noncomputable def tEl : Tbl := [(27, entF ePc)]
noncomputable abbrev ENL := loopIn (bodyOf Try.prog 10) 0
def memC (C : List AV) (i : Int) : List AV := putCells [AV.bool false, b8 0, b8 0, b8 0, b8 0, b8 0, b8 0, b8 0, b8 0, b8 0, b8 0, b8 0, b8 0, b8 0, b8 0, b8 0, b8 0, int u16 0, int i64 0] 0 (List.take 19 (List.drop (0 + i.toNat * 19) C))
def mEn : List Bool := List.replicate 4 false ++ List.replicate 1 true ++ List.replicate 33 false ++ List.replicate 3 true ++ List.replicate 19 false
def vEn (p m n : Nat) (i : Int) : List AV := [.sl (some (p, 0)) m 0 false, .sl (some (0, 0)) n 0 false, .int .i64 n, .int .i64 i]
def hEn0 (C : List AV) (Z : List UInt8) : AHeap := [.cells C 19 .far none, .dead, .dead, .dead, .dead, .dead, .dead, ownB Z]
def hEn (C : List AV) (Z : List UInt8) : AHeap := [.cells C 19 .far none, .dead, .dead, .dead, .dead, .dead, .dead, .dead, ownB Z]
noncomputable def hEnX0 (C : List AV) (n : Nat) (k pr : Int) (w : Bool) (x : Nat → Int) (po : Int) : AHeap := [ABlk.cells C 19 Md.far none, cells [int i64 k, b8 pr, AV.bool w, b8 (x 0), b8 (x 1), b8 (x 2), b8 (x 3), b8 (x 4), b8 (x 5), b8 (x 6), b8 (x 7), b8 (x 8), b8 (x 9), b8 (x 10), b8 (x 11), b8 (x 12), b8 (x 13), b8 (x 14), b8 (x 15), int u16 po, AV.sl (some (0, 0)) n 0 false] 21 Md.own none]
noncomputable def hEnX1 (C : List AV) (n : Nat) (k pr : Int) (w : Bool) (x : Nat → Int) (po : Int) : AHeap := []
theorem nfEnX {R : Type} (C : List AV) (n : Nat) (k pr : Int) (w : Bool) (x : Nat → Int) (po : Int) (K : AV → AHeap → Option R) :
 qrun Try.prog (tEn false []) 100 4 [(9, .bool true)] [] 10 [.agg (cmA k pr w x po (.sl (some (0, 0)) n 0 false))] [.cells C 19 .far none] K =
 (if cdec (MyR [AV.agg [int i64 k, b8 pr, AV.bool w, b8 (x 0), b8 (x 1), b8 (x 2), b8 (x 3), b8 (x 4), b8 (x 5), b8 (x 6), b8 (x 7), b8 (x 8), b8 (x 9), b8 (x 10), b8 (x 11), b8 (x 12), b8 (x 13), b8 (x 14), b8 (x 15), int u16 po, AV.sl (some (0, 0)) n 0 false]] (hEnX0 C n k pr w x po) (AV.bool false) (hEnX1 C n k pr w x po)) = true then
 K (AV.tup [AV.sl none 0 0 true, int i64 2]) ((hEnX0 C n k pr w x po))
 else none) := by
  kernel_rfl

noncomputable def hEnDF0 (C : List AV) (n : Nat) (k pr : Int) (w : Bool) (x : Nat → Int) (po : Int) (z : Nat → UInt8) : AHeap := [ABlk.cells C 19 Md.far none, cells [int i64 k, b8 pr, AV.bool w, b8 (x 0), b8 (x 1), b8 (x 2), b8 (x 3), b8 (x 4), b8 (x 5), b8 (x 6), b8 (x 7), b8 (x 8), b8 (x 9), b8 (x 10), b8 (x 11), b8 (x 12), b8 (x 13), b8 (x 14), b8 (x 15), int u16 po, AV.sl (some (0, 0)) n 0 false] 21 Md.own none]
noncomputable def hEnDF1 (C : List AV) (n : Nat) (k pr : Int) (w : Bool) (x : Nat → Int) (po : Int) (z : Nat → UInt8) : AHeap := []
noncomputable def hEnDF2 (C : List AV) (n : Nat) (k pr : Int) (w : Bool) (x : Nat → Int) (po : Int) (z : Nat → UInt8) : AHeap := [cells [b8 (((z 0).toNat : Nat) : Int), b8 (((z 1).toNat : Nat) : Int), b8 (((z 2).toNat : Nat) : Int), b8 (((z 3).toNat : Nat) : Int), b8 (((z 4).toNat : Nat) : Int), b8 (((z 5).toNat : Nat) : Int), b8 (((z 6).toNat : Nat) : Int)] 1 Md.own none]
noncomputable def hEnDF3 (C : List AV) (n : Nat) (k pr : Int) (w : Bool) (x : Nat → Int) (po : Int) (z : Nat → UInt8) : AHeap := [ABlk.cells C 19 Md.far none, cells [int i64 k, b8 pr, AV.bool w, b8 (x 0), b8 (x 1), b8 (x 2), b8 (x 3), b8 (x 4), b8 (x 5), b8 (x 6), b8 (x 7), b8 (x 8), b8 (x 9), b8 (x 10), b8 (x 11), b8 (x 12), b8 (x 13), b8 (x 14), b8 (x 15), int u16 po, AV.sl (some (0, 0)) n 0 false] 21 Md.own none, cells [b8 (((z 0).toNat : Nat) : Int), b8 (((z 1).toNat : Nat) : Int), b8 (((z 2).toNat : Nat) : Int), b8 (((z 3).toNat : Nat) : Int), b8 (((z 4).toNat : Nat) : Int), b8 (((z 5).toNat : Nat) : Int), b8 (((z 6).toNat : Nat) : Int)] 1 Md.own none, cells [b8 (u8.wrap (intV (some (int i64 k)))), b8 (intV (some (b8 pr)))] 1 Md.own none, cells [AV.sl (some (3, 0)) 2 0 false, AV.sl (some (2, 0)) [z 0, z 1, z 2, z 3, z 4, z 5, z 6].length 0 false] 1 Md.own none, cells [b8 (u8.wrap (intV (some (int i64 k)))), b8 (intV (some (b8 pr))), b8 (((z 0).toNat : Nat) : Int), b8 (((z 1).toNat : Nat) : Int), b8 (((z 2).toNat : Nat) : Int), b8 (((z 3).toNat : Nat) : Int), b8 (((z 4).toNat : Nat) : Int), b8 (((z 5).toNat : Nat) : Int), b8 (((z 6).toNat : Nat) : Int)] 1 Md.own none]
theorem nfEnDF {R : Type} (C : List AV) (n : Nat) (k pr : Int) (w : Bool) (x : Nat → Int) (po : Int) (z : Nat → UInt8) (K : AV → AHeap → Option R) :
 qrun Try.prog (tEn true [z 0, z 1, z 2, z 3, z 4, z 5, z 6]) 100 4 [(9, .bool false), (28, .bool true)] [] 10 [.agg (cmA k pr w x po (.sl (some (0, 0)) n 0 false))] [.cells C 19 .far none] K =
 (if cdec (MyR [AV.agg [int i64 k, b8 pr, AV.bool w, b8 (x 0), b8 (x 1), b8 (x 2), b8 (x 3), b8 (x 4), b8 (x 5), b8 (x 6), b8 (x 7), b8 (x 8), b8 (x 9), b8 (x 10), b8 (x 11), b8 (x 12), b8 (x 13), b8 (x 14), b8 (x 15), int u16 po, AV.sl (some (0, 0)) n 0 false]] (hEnDF0 C n k pr w x po z) (AV.bool true) (hEnDF1 C n k pr w x po z)) = true then
 (if cdec (PcR [AV.agg (adF w x), int u16 (intV (some (int u16 po)))] (hEnDF0 C n k pr w x po z) (AV.sl (some (2, 0)) [z 0, z 1, z 2, z 3, z 4, z 5, z 6].length 0 false) (hEnDF2 C n k pr w x po z)) = true then
 (if (int i64 (intV (some (int i64 k)))).beq (int i64 (intV (some (int i64 k)))) = true then
 (if (b8 (intV (some (b8 pr)))).beq (b8 (intV (some (b8 pr)))) = true then
 (if (intV (some (int i64 k)) == 2) = true then
 K (AV.tup [AV.sl (some (5, 0)) (2 + [z 0, z 1, z 2, z 3, z 4, z 5, z 6].length) (roomOf (i64.wrap (i64.wrap (2 + ↑[z 0, z 1, z 2, z 3, z 4, z 5, z 6].length) - 0)).toNat 0 0 false 0 false - 2 - [z 0, z 1, z 2, z 3, z 4, z 5, z 6].length) false, int i64 0]) ((hEnDF3 C n k pr w x po z))
 else none) else none) else none) else none) else none) := by
  kernel_rfl

noncomputable def hEnLF0 (C : List AV) (n : Nat) (k pr : Int) (w : Bool) (x : Nat → Int) (po : Int) (z : Nat → UInt8) (q : Prop) (vs0 : List AV) (h0 : AHeap) (p m : Nat) (h1 : AHeap) : AHeap := [ABlk.cells C 19 Md.far none, cells [int i64 k, b8 pr, AV.bool w, b8 (x 0), b8 (x 1), b8 (x 2), b8 (x 3), b8 (x 4), b8 (x 5), b8 (x 6), b8 (x 7), b8 (x 8), b8 (x 9), b8 (x 10), b8 (x 11), b8 (x 12), b8 (x 13), b8 (x 14), b8 (x 15), int u16 po, AV.sl (some (0, 0)) n 0 false] 21 Md.own none]
noncomputable def hEnLF1 (C : List AV) (n : Nat) (k pr : Int) (w : Bool) (x : Nat → Int) (po : Int) (z : Nat → UInt8) (q : Prop) (vs0 : List AV) (h0 : AHeap) (p m : Nat) (h1 : AHeap) : AHeap := []
noncomputable def hEnLF2 (C : List AV) (n : Nat) (k pr : Int) (w : Bool) (x : Nat → Int) (po : Int) (z : Nat → UInt8) (q : Prop) (vs0 : List AV) (h0 : AHeap) (p m : Nat) (h1 : AHeap) : AHeap := [cells [b8 (((z 0).toNat : Nat) : Int), b8 (((z 1).toNat : Nat) : Int), b8 (((z 2).toNat : Nat) : Int), b8 (((z 3).toNat : Nat) : Int), b8 (((z 4).toNat : Nat) : Int), b8 (((z 5).toNat : Nat) : Int), b8 (((z 6).toNat : Nat) : Int)] 1 Md.own none]
noncomputable def hEnLF3 (C : List AV) (n : Nat) (k pr : Int) (w : Bool) (x : Nat → Int) (po : Int) (z : Nat → UInt8) (q : Prop) (vs0 : List AV) (h0 : AHeap) (p m : Nat) (h1 : AHeap) : AHeap := [ABlk.cells C 19 Md.far none, cells [int i64 k, b8 pr, AV.bool w, b8 (x 0), b8 (x 1), b8 (x 2), b8 (x 3), b8 (x 4), b8 (x 5), b8 (x 6), b8 (x 7), b8 (x 8), b8 (x 9), b8 (x 10), b8 (x 11), b8 (x 12), b8 (x 13), b8 (x 14), b8 (x 15), int u16 po, AV.sl (some (0, 0)) n 0 false] 21 Md.own none, cells [b8 (((z 0).toNat : Nat) : Int), b8 (((z 1).toNat : Nat) : Int), b8 (((z 2).toNat : Nat) : Int), b8 (((z 3).toNat : Nat) : Int), b8 (((z 4).toNat : Nat) : Int), b8 (((z 5).toNat : Nat) : Int), b8 (((z 6).toNat : Nat) : Int)] 1 Md.own none, cells [b8 (u8.wrap (intV (some (int i64 k)))), b8 (intV (some (b8 pr)))] 1 Md.own none, cells [AV.sl (some (3, 0)) 2 0 false, AV.sl (some (2, 0)) [z 0, z 1, z 2, z 3, z 4, z 5, z 6].length 0 false] 1 Md.own none, cells [b8 (u8.wrap (intV (some (int i64 k)))), b8 (intV (some (b8 pr))), b8 (((z 0).toNat : Nat) : Int), b8 (((z 1).toNat : Nat) : Int), b8 (((z 2).toNat : Nat) : Int), b8 (((z 3).toNat : Nat) : Int), b8 (((z 4).toNat : Nat) : Int), b8 (((z 5).toNat : Nat) : Int), b8 (((z 6).toNat : Nat) : Int)] 1 Md.ro none, cells [b8 (u8.wrap (n : Int))] 1 Md.own none, cells [b8 (u8.wrap (intV (some (int i64 k)))), b8 (intV (some (b8 pr))), b8 (((z 0).toNat : Nat) : Int), b8 (((z 1).toNat : Nat) : Int), b8 (((z 2).toNat : Nat) : Int), b8 (((z 3).toNat : Nat) : Int), b8 (((z 4).toNat : Nat) : Int), b8 (((z 5).toNat : Nat) : Int), b8 (((z 6).toNat : Nat) : Int), b8 (u8.wrap (n : Int))] 1 Md.own (some 5)]
theorem nfEnLF {R : Type} (C : List AV) (n : Nat) (k pr : Int) (w : Bool) (x : Nat → Int) (po : Int) (z : Nat → UInt8) (q : Prop) (vs0 : List AV) (h0 : AHeap) (p m : Nat) (h1 : AHeap) (K : AV → AHeap → Option R) :
 qrun Try.prog (tEn true [z 0, z 1, z 2, z 3, z 4, z 5, z 6]) 100 4 [(9, .bool false), (28, .bool false)] [(8, fixC q mEn vs0 h0 (.exit 0) (vEn p m n n) h1)] 10 [.agg (cmA k pr w x po (.sl (some (0, 0)) n 0 false))] [.cells C 19 .far none] K =
 (if cdec (MyR [AV.agg [int i64 k, b8 pr, AV.bool w, b8 (x 0), b8 (x 1), b8 (x 2), b8 (x 3), b8 (x 4), b8 (x 5), b8 (x 6), b8 (x 7), b8 (x 8), b8 (x 9), b8 (x 10), b8 (x 11), b8 (x 12), b8 (x 13), b8 (x 14), b8 (x 15), int u16 po, AV.sl (some (0, 0)) n 0 false]] (hEnLF0 C n k pr w x po z q vs0 h0 p m h1) (AV.bool true) (hEnLF1 C n k pr w x po z q vs0 h0 p m h1)) = true then
 (if cdec (PcR [AV.agg (adF w x), int u16 (intV (some (int u16 po)))] (hEnLF0 C n k pr w x po z q vs0 h0 p m h1) (AV.sl (some (2, 0)) [z 0, z 1, z 2, z 3, z 4, z 5, z 6].length 0 false) (hEnLF2 C n k pr w x po z q vs0 h0 p m h1)) = true then
 (if (int i64 (intV (some (int i64 k)))).beq (int i64 (intV (some (int i64 k)))) = true then
 (if (b8 (intV (some (b8 pr)))).beq (b8 (intV (some (b8 pr)))) = true then
 (if (intV (some (int i64 k)) == 2) = false then
 (if cdec (q ∧ [AV.sl (some (7, 0)) (2 + [z 0, z 1, z 2, z 3, z 4, z 5, z 6].length + 1) 0 false, AV.sl (some (0, 0)) n 0 false, int i64 (n : Int), int i64 0] = vs0 ∧ (hEnLF3 C n k pr w x po z q vs0 h0 p m h1) = h0) = true then
 K (AV.tup [AV.sl (some (p, 0)) m 0 false, int i64 0]) (h1)
 else none) else none) else none) else none) else none) else none) := by
  kernel_rfl

noncomputable def hEnDT0 (C : List AV) (n : Nat) (k pr : Int) (w : Bool) (x : Nat → Int) (po : Int) (z : Nat → UInt8) : AHeap := [ABlk.cells C 19 Md.far none, cells [int i64 k, b8 pr, AV.bool w, b8 (x 0), b8 (x 1), b8 (x 2), b8 (x 3), b8 (x 4), b8 (x 5), b8 (x 6), b8 (x 7), b8 (x 8), b8 (x 9), b8 (x 10), b8 (x 11), b8 (x 12), b8 (x 13), b8 (x 14), b8 (x 15), int u16 po, AV.sl (some (0, 0)) n 0 false] 21 Md.own none]
noncomputable def hEnDT1 (C : List AV) (n : Nat) (k pr : Int) (w : Bool) (x : Nat → Int) (po : Int) (z : Nat → UInt8) : AHeap := []
noncomputable def hEnDT2 (C : List AV) (n : Nat) (k pr : Int) (w : Bool) (x : Nat → Int) (po : Int) (z : Nat → UInt8) : AHeap := [cells [b8 (((z 0).toNat : Nat) : Int), b8 (((z 1).toNat : Nat) : Int), b8 (((z 2).toNat : Nat) : Int), b8 (((z 3).toNat : Nat) : Int), b8 (((z 4).toNat : Nat) : Int), b8 (((z 5).toNat : Nat) : Int), b8 (((z 6).toNat : Nat) : Int), b8 (((z 7).toNat : Nat) : Int), b8 (((z 8).toNat : Nat) : Int), b8 (((z 9).toNat : Nat) : Int), b8 (((z 10).toNat : Nat) : Int), b8 (((z 11).toNat : Nat) : Int), b8 (((z 12).toNat : Nat) : Int), b8 (((z 13).toNat : Nat) : Int), b8 (((z 14).toNat : Nat) : Int), b8 (((z 15).toNat : Nat) : Int), b8 (((z 16).toNat : Nat) : Int), b8 (((z 17).toNat : Nat) : Int), b8 (((z 18).toNat : Nat) : Int)] 1 Md.own none]
noncomputable def hEnDT3 (C : List AV) (n : Nat) (k pr : Int) (w : Bool) (x : Nat → Int) (po : Int) (z : Nat → UInt8) : AHeap := [ABlk.cells C 19 Md.far none, cells [int i64 k, b8 pr, AV.bool w, b8 (x 0), b8 (x 1), b8 (x 2), b8 (x 3), b8 (x 4), b8 (x 5), b8 (x 6), b8 (x 7), b8 (x 8), b8 (x 9), b8 (x 10), b8 (x 11), b8 (x 12), b8 (x 13), b8 (x 14), b8 (x 15), int u16 po, AV.sl (some (0, 0)) n 0 false] 21 Md.own none, cells [b8 (((z 0).toNat : Nat) : Int), b8 (((z 1).toNat : Nat) : Int), b8 (((z 2).toNat : Nat) : Int), b8 (((z 3).toNat : Nat) : Int), b8 (((z 4).toNat : Nat) : Int), b8 (((z 5).toNat : Nat) : Int), b8 (((z 6).toNat : Nat) : Int), b8 (((z 7).toNat : Nat) : Int), b8 (((z 8).toNat : Nat) : Int), b8 (((z 9).toNat : Nat) : Int), b8 (((z 10).toNat : Nat) : Int), b8 (((z 11).toNat : Nat) : Int), b8 (((z 12).toNat : Nat) : Int), b8 (((z 13).toNat : Nat) : Int), b8 (((z 14).toNat : Nat) : Int), b8 (((z 15).toNat : Nat) : Int), b8 (((z 16).toNat : Nat) : Int), b8 (((z 17).toNat : Nat) : Int), b8 (((z 18).toNat : Nat) : Int)] 1 Md.own none, cells [b8 (u8.wrap (intV (some (int i64 k)))), b8 (intV (some (b8 pr)))] 1 Md.own none, cells [AV.sl (some (3, 0)) 2 0 false, AV.sl (some (2, 0)) [z 0, z 1, z 2, z 3, z 4, z 5, z 6, z 7, z 8, z 9, z 10, z 11, z 12, z 13, z 14, z 15, z 16, z 17, z 18].length 0 false] 1 Md.own none, cells [b8 (u8.wrap (intV (some (int i64 k)))), b8 (intV (some (b8 pr))), b8 (((z 0).toNat : Nat) : Int), b8 (((z 1).toNat : Nat) : Int), b8 (((z 2).toNat : Nat) : Int), b8 (((z 3).toNat : Nat) : Int), b8 (((z 4).toNat : Nat) : Int), b8 (((z 5).toNat : Nat) : Int), b8 (((z 6).toNat : Nat) : Int), b8 (((z 7).toNat : Nat) : Int), b8 (((z 8).toNat : Nat) : Int), b8 (((z 9).toNat : Nat) : Int), b8 (((z 10).toNat : Nat) : Int), b8 (((z 11).toNat : Nat) : Int), b8 (((z 12).toNat : Nat) : Int), b8 (((z 13).toNat : Nat) : Int), b8 (((z 14).toNat : Nat) : Int), b8 (((z 15).toNat : Nat) : Int), b8 (((z 16).toNat : Nat) : Int), b8 (((z 17).toNat : Nat) : Int), b8 (((z 18).toNat : Nat) : Int)] 1 Md.own none]
theorem nfEnDT {R : Type} (C : List AV) (n : Nat) (k pr : Int) (w : Bool) (x : Nat → Int) (po : Int) (z : Nat → UInt8) (K : AV → AHeap → Option R) :
 qrun Try.prog (tEn true [z 0, z 1, z 2, z 3, z 4, z 5, z 6, z 7, z 8, z 9, z 10, z 11, z 12, z 13, z 14, z 15, z 16, z 17, z 18]) 100 4 [(9, .bool false), (28, .bool true)] [] 10 [.agg (cmA k pr w x po (.sl (some (0, 0)) n 0 false))] [.cells C 19 .far none] K =
 (if cdec (MyR [AV.agg [int i64 k, b8 pr, AV.bool w, b8 (x 0), b8 (x 1), b8 (x 2), b8 (x 3), b8 (x 4), b8 (x 5), b8 (x 6), b8 (x 7), b8 (x 8), b8 (x 9), b8 (x 10), b8 (x 11), b8 (x 12), b8 (x 13), b8 (x 14), b8 (x 15), int u16 po, AV.sl (some (0, 0)) n 0 false]] (hEnDT0 C n k pr w x po z) (AV.bool true) (hEnDT1 C n k pr w x po z)) = true then
 (if cdec (PcR [AV.agg (adF w x), int u16 (intV (some (int u16 po)))] (hEnDT0 C n k pr w x po z) (AV.sl (some (2, 0)) [z 0, z 1, z 2, z 3, z 4, z 5, z 6, z 7, z 8, z 9, z 10, z 11, z 12, z 13, z 14, z 15, z 16, z 17, z 18].length 0 false) (hEnDT2 C n k pr w x po z)) = true then
 (if (int i64 (intV (some (int i64 k)))).beq (int i64 (intV (some (int i64 k)))) = true then
 (if (b8 (intV (some (b8 pr)))).beq (b8 (intV (some (b8 pr)))) = true then
 (if (intV (some (int i64 k)) == 2) = true then
 K (AV.tup [AV.sl (some (5, 0)) (2 + [z 0, z 1, z 2, z 3, z 4, z 5, z 6, z 7, z 8, z 9, z 10, z 11, z 12, z 13, z 14, z 15, z 16, z 17, z 18].length) (roomOf (i64.wrap (i64.wrap (2 + ↑[z 0, z 1, z 2, z 3, z 4, z 5, z 6, z 7, z 8, z 9, z 10, z 11, z 12, z 13, z 14, z 15, z 16, z 17, z 18].length) - 0)).toNat 0 0 false 0 false - 2 - [z 0, z 1, z 2, z 3, z 4, z 5, z 6, z 7, z 8, z 9, z 10, z 11, z 12, z 13, z 14, z 15, z 16, z 17, z 18].length) false, int i64 0]) ((hEnDT3 C n k pr w x po z))
 else none) else none) else none) else none) else none) := by
  kernel_rfl

noncomputable def hEnLT0 (C : List AV) (n : Nat) (k pr : Int) (w : Bool) (x : Nat → Int) (po : Int) (z : Nat → UInt8) (q : Prop) (vs0 : List AV) (h0 : AHeap) (p m : Nat) (h1 : AHeap) : AHeap := [ABlk.cells C 19 Md.far none, cells [int i64 k, b8 pr, AV.bool w, b8 (x 0), b8 (x 1), b8 (x 2), b8 (x 3), b8 (x 4), b8 (x 5), b8 (x 6), b8 (x 7), b8 (x 8), b8 (x 9), b8 (x 10), b8 (x 11), b8 (x 12), b8 (x 13), b8 (x 14), b8 (x 15), int u16 po, AV.sl (some (0, 0)) n 0 false] 21 Md.own none]
noncomputable def hEnLT1 (C : List AV) (n : Nat) (k pr : Int) (w : Bool) (x : Nat → Int) (po : Int) (z : Nat → UInt8) (q : Prop) (vs0 : List AV) (h0 : AHeap) (p m : Nat) (h1 : AHeap) : AHeap := []
noncomputable def hEnLT2 (C : List AV) (n : Nat) (k pr : Int) (w : Bool) (x : Nat → Int) (po : Int) (z : Nat → UInt8) (q : Prop) (vs0 : List AV) (h0 : AHeap) (p m : Nat) (h1 : AHeap) : AHeap := [cells [b8 (((z 0).toNat : Nat) : Int), b8 (((z 1).toNat : Nat) : Int), b8 (((z 2).toNat : Nat) : Int), b8 (((z 3).toNat : Nat) : Int), b8 (((z 4).toNat : Nat) : Int), b8 (((z 5).toNat : Nat) : Int), b8 (((z 6).toNat : Nat) : Int), b8 (((z 7).toNat : Nat) : Int), b8 (((z 8).toNat : Nat) : Int), b8 (((z 9).toNat : Nat) : Int), b8 (((z 10).toNat : Nat) : Int), b8 (((z 11).toNat : Nat) : Int), b8 (((z 12).toNat : Nat) : Int), b8 (((z 13).toNat : Nat) : Int), b8 (((z 14).toNat : Nat) : Int), b8 (((z 15).toNat : Nat) : Int), b8 (((z 16).toNat : Nat) : Int), b8 (((z 17).toNat : Nat) : Int), b8 (((z 18).toNat : Nat) : Int)] 1 Md.own none]
noncomputable def hEnLT3 (C : List AV) (n : Nat) (k pr : Int) (w : Bool) (x : Nat → Int) (po : Int) (z : Nat → UInt8) (q : Prop) (vs0 : List AV) (h0 : AHeap) (p m : Nat) (h1 : AHeap) : AHeap := [ABlk.cells C 19 Md.far none, cells [int i64 k, b8 pr, AV.bool w, b8 (x 0), b8 (x 1), b8 (x 2), b8 (x 3), b8 (x 4), b8 (x 5), b8 (x 6), b8 (x 7), b8 (x 8), b8 (x 9), b8 (x 10), b8 (x 11), b8 (x 12), b8 (x 13), b8 (x 14), b8 (x 15), int u16 po, AV.sl (some (0, 0)) n 0 false] 21 Md.own none, cells [b8 (((z 0).toNat : Nat) : Int), b8 (((z 1).toNat : Nat) : Int), b8 (((z 2).toNat : Nat) : Int), b8 (((z 3).toNat : Nat) : Int), b8 (((z 4).toNat : Nat) : Int), b8 (((z 5).toNat : Nat) : Int), b8 (((z 6).toNat : Nat) : Int), b8 (((z 7).toNat : Nat) : Int), b8 (((z 8).toNat : Nat) : Int), b8 (((z 9).toNat : Nat) : Int), b8 (((z 10).toNat : Nat) : Int), b8 (((z 11).toNat : Nat) : Int), b8 (((z 12).toNat : Nat) : Int), b8 (((z 13).toNat : Nat) : Int), b8 (((z 14).toNat : Nat) : Int), b8 (((z 15).toNat : Nat) : Int), b8 (((z 16).toNat : Nat) : Int), b8 (((z 17).toNat : Nat) : Int), b8 (((z 18).toNat : Nat) : Int)] 1 Md.own none, cells [b8 (u8.wrap (intV (some (int i64 k)))), b8 (intV (some (b8 pr)))] 1 Md.own none, cells [AV.sl (some (3, 0)) 2 0 false, AV.sl (some (2, 0)) [z 0, z 1, z 2, z 3, z 4, z 5, z 6, z 7, z 8, z 9, z 10, z 11, z 12, z 13, z 14, z 15, z 16, z 17, z 18].length 0 false] 1 Md.own none, cells [b8 (u8.wrap (intV (some (int i64 k)))), b8 (intV (some (b8 pr))), b8 (((z 0).toNat : Nat) : Int), b8 (((z 1).toNat : Nat) : Int), b8 (((z 2).toNat : Nat) : Int), b8 (((z 3).toNat : Nat) : Int), b8 (((z 4).toNat : Nat) : Int), b8 (((z 5).toNat : Nat) : Int), b8 (((z 6).toNat : Nat) : Int), b8 (((z 7).toNat : Nat) : Int), b8 (((z 8).toNat : Nat) : Int), b8 (((z 9).toNat : Nat) : Int), b8 (((z 10).toNat : Nat) : Int), b8 (((z 11).toNat : Nat) : Int), b8 (((z 12).toNat : Nat) : Int), b8 (((z 13).toNat : Nat) : Int), b8 (((z 14).toNat : Nat) : Int), b8 (((z 15).toNat : Nat) : Int), b8 (((z 16).toNat : Nat) : Int), b8 (((z 17).toNat : Nat) : Int), b8 (((z 18).toNat : Nat) : Int)] 1 Md.ro none, cells [b8 (u8.wrap (n : Int))] 1 Md.own none, cells [b8 (u8.wrap (intV (some (int i64 k)))), b8 (intV (some (b8 pr))), b8 (((z 0).toNat : Nat) : Int), b8 (((z 1).toNat : Nat) : Int), b8 (((z 2).toNat : Nat) : Int), b8 (((z 3).toNat : Nat) : Int), b8 (((z 4).toNat : Nat) : Int), b8 (((z 5).toNat : Nat) : Int), b8 (((z 6).toNat : Nat) : Int), b8 (((z 7).toNat : Nat) : Int), b8 (((z 8).toNat : Nat) : Int), b8 (((z 9).toNat : Nat) : Int), b8 (((z 10).toNat : Nat) : Int), b8 (((z 11).toNat : Nat) : Int), b8 (((z 12).toNat : Nat) : Int), b8 (((z 13).toNat : Nat) : Int), b8 (((z 14).toNat : Nat) : Int), b8 (((z 15).toNat : Nat) : Int), b8 (((z 16).toNat : Nat) : Int), b8 (((z 17).toNat : Nat) : Int), b8 (((z 18).toNat : Nat) : Int), b8 (u8.wrap (n : Int))] 1 Md.own (some 5)]
theorem nfEnLT {R : Type} (C : List AV) (n : Nat) (k pr : Int) (w : Bool) (x : Nat → Int) (po : Int) (z : Nat → UInt8) (q : Prop) (vs0 : List AV) (h0 : AHeap) (p m : Nat) (h1 : AHeap) (K : AV → AHeap → Option R) :
 qrun Try.prog (tEn true [z 0, z 1, z 2, z 3, z 4, z 5, z 6, z 7, z 8, z 9, z 10, z 11, z 12, z 13, z 14, z 15, z 16, z 17, z 18]) 100 4 [(9, .bool false), (28, .bool false)] [(8, fixC q mEn vs0 h0 (.exit 0) (vEn p m n n) h1)] 10 [.agg (cmA k pr w x po (.sl (some (0, 0)) n 0 false))] [.cells C 19 .far none] K =
 (if cdec (MyR [AV.agg [int i64 k, b8 pr, AV.bool w, b8 (x 0), b8 (x 1), b8 (x 2), b8 (x 3), b8 (x 4), b8 (x 5), b8 (x 6), b8 (x 7), b8 (x 8), b8 (x 9), b8 (x 10), b8 (x 11), b8 (x 12), b8 (x 13), b8 (x 14), b8 (x 15), int u16 po, AV.sl (some (0, 0)) n 0 false]] (hEnLT0 C n k pr w x po z q vs0 h0 p m h1) (AV.bool true) (hEnLT1 C n k pr w x po z q vs0 h0 p m h1)) = true then
 (if cdec (PcR [AV.agg (adF w x), int u16 (intV (some (int u16 po)))] (hEnLT0 C n k pr w x po z q vs0 h0 p m h1) (AV.sl (some (2, 0)) [z 0, z 1, z 2, z 3, z 4, z 5, z 6, z 7, z 8, z 9, z 10, z 11, z 12, z 13, z 14, z 15, z 16, z 17, z 18].length 0 false) (hEnLT2 C n k pr w x po z q vs0 h0 p m h1)) = true then
 (if (int i64 (intV (some (int i64 k)))).beq (int i64 (intV (some (int i64 k)))) = true then
 (if (b8 (intV (some (b8 pr)))).beq (b8 (intV (some (b8 pr)))) = true then
 (if (intV (some (int i64 k)) == 2) = false then
 (if cdec (q ∧ [AV.sl (some (7, 0)) (2 + [z 0, z 1, z 2, z 3, z 4, z 5, z 6, z 7, z 8, z 9, z 10, z 11, z 12, z 13, z 14, z 15, z 16, z 17, z 18].length + 1) 0 false, AV.sl (some (0, 0)) n 0 false, int i64 (n : Int), int i64 0] = vs0 ∧ (hEnLT3 C n k pr w x po z q vs0 h0 p m h1) = h0) = true then
 K (AV.tup [AV.sl (some (p, 0)) m 0 false, int i64 0]) (h1)
 else none) else none) else none) else none) else none) else none) := by
  kernel_rfl

noncomputable def hEna0 (C : List AV) (Z : List UInt8) (n : Nat) (i : Int) : AHeap := [ABlk.cells C 19 Md.far none, ABlk.dead, ABlk.dead, ABlk.dead, ABlk.dead, ABlk.dead, ABlk.dead, ABlk.dead, cells (memC C i) 19 Md.own none, cells (bys (opq plcL (List.take 17 (memC C i)) (intV (memC C i)[17]?))) 1 Md.own none, cells (List.take (Z.length * 1) (bys Z) ++ List.take ((opq plcL (List.take 17 (memC C i)) (intV (memC C i)[17]?)).length * 1) (bys (opq plcL (List.take 17 (memC C i)) (intV (memC C i)[17]?)))) 1 Md.ro none, cells [b8 (u8.wrap (intV (memC C i)[18]?))] 1 Md.own none, cells (List.take ((Z.length + (opq plcL (List.take 17 (memC C i)) (intV (memC C i)[17]?)).length) * 1) (List.take (Z.length * 1) (bys Z) ++ List.take ((opq plcL (List.take 17 (memC C i)) (intV (memC C i)[17]?)).length * 1) (bys (opq plcL (List.take 17 (memC C i)) (intV (memC C i)[17]?)))) ++ [b8 (u8.wrap (intV (memC C i)[18]?))]) 1 Md.own (some 10)]
theorem nfEna (C : List AV) (Z : List UInt8) (n : Nat) (i : Int) :
 qround Try.prog tEl 100 4 [(41, .bool true)] noT ENL mEn (vEn 7 Z.length n i) (hEn0 C Z) =
 (if decide (i < (n : Int)) = true then
 (if 0 ≤ i ∧ i < (n : Int) then
 (if 0 + i.toNat * 19 + 19 ≤ C.length then
 (if (List.take 19 (List.drop (0 + i.toNat * 19) C)).length = 19 then
 (if 0 + (List.take 19 (List.drop (0 + i.toNat * 19) C)).length ≤ 19 ∧ (List.take 19 (List.drop (0 + i.toNat * 19) C)).all AV.isCell = true then
 (if 17 ≤ (memC C i).length then
 (if isIntV u16 (memC C i)[17]? = true then
 (if (adrWf (List.take 17 (memC C i)) && decide (0 ≤ intV (memC C i)[17]? ∧ intV (memC C i)[17]? < 65536)) = true then
 (if 0 + (opq plcL (List.take 17 (memC C i)) (intV (memC C i)[17]?)).length * 1 ≤ (bys (opq plcL (List.take 17 (memC C i)) (intV (memC C i)[17]?))).length then
 (if (2 * (Z.length + (opq plcL (List.take 17 (memC C i)) (intV (memC C i)[17]?)).length) + 200) * 1 ≤ 281474976710656 ∧ some 1 = some 1 ∧ Z.length + (opq plcL (List.take 17 (memC C i)) (intV (memC C i)[17]?)).length ≤ 70368744177664 then
 (if 0 + Z.length * 1 ≤ (bys Z).length then
 (if 0 = 0 ∧ 0 + Z.length * 1 = (bys Z).length ∧ (0 < (opq plcL (List.take 17 (memC C i)) (intV (memC C i)[17]?)).length ∨ 0 = 0) ∧ 1 = 1 ∧ (List.take ((opq plcL (List.take 17 (memC C i)) (intV (memC C i)[17]?)).length * 1) (bys (opq plcL (List.take 17 (memC C i)) (intV (memC C i)[17]?)))).all AV.isCell = true then
 (if isIntV i64 (memC C i)[18]? = true then
 (if (2 * (Z.length + (opq plcL (List.take 17 (memC C i)) (intV (memC C i)[17]?)).length + 1) + 200) * 1 ≤ 281474976710656 ∧ some 1 = some 1 ∧ Z.length + (opq plcL (List.take 17 (memC C i)) (intV (memC C i)[17]?)).length + 1 ≤ 70368744177664 then
 (if 0 + (Z.length + (opq plcL (List.take 17 (memC C i)) (intV (memC C i)[17]?)).length) * 1 ≤ (List.take (Z.length * 1) (bys Z) ++ List.take ((opq plcL (List.take 17 (memC C i)) (intV (memC C i)[17]?)).length * 1) (bys (opq plcL (List.take 17 (memC C i)) (intV (memC C i)[17]?)))).length then
 (if 0 = 0 ∧ 0 + (Z.length + (opq plcL (List.take 17 (memC C i)) (intV (memC C i)[17]?)).length) * 1 = (List.take (Z.length * 1) (bys Z) ++ List.take ((opq plcL (List.take 17 (memC C i)) (intV (memC C i)[17]?)).length * 1) (bys (opq plcL (List.take 17 (memC C i)) (intV (memC C i)[17]?)))).length ∧ (0 < 1 ∨ 0 = 0) ∧ 1 = 1 ∧ [b8 (u8.wrap (intV (memC C i)[18]?))].all AV.isCell = true then
 (if isIntV i64 (memC C i)[18]? = true then
 (if (int i64 (intV (memC C i)[18]?)).beq (int i64 (intV (memC C i)[18]?)) = true then
 (if isIntV i64 (memC C i)[18]? = true then
 (if (int i64 (intV (memC C i)[18]?)).beq (int i64 (intV (memC C i)[18]?)) = true then
 some ((AEx.norm, [AV.sl (some (12, 0)) (Z.length + (opq plcL (List.take 17 (memC C i)) (intV (memC C i)[17]?)).length + 1) 0 false, AV.sl (some (0, 0)) n 0 false, int i64 (n : Int), int i64 (i64.wrap (i + 1))], (hEna0 C Z n i)))
 else none) else none) else none) else none) else none) else none) else none) else none) else none) else none) else none) else none) else none) else none) else none) else none) else none) else none) else none) else none) := by
  kernel_rfl

noncomputable def hEnsa0 (C : List AV) (Z : List UInt8) (n : Nat) (i : Int) : AHeap := [ABlk.cells C 19 Md.far none, ABlk.dead, ABlk.dead, ABlk.dead, ABlk.dead, ABlk.dead, ABlk.dead, cells (bys Z) 1 Md.own none]
theorem nfEnsa (C : List AV) (Z : List UInt8) (n : Nat) (i : Int) :
 qround Try.prog tEl 100 4 [(41, .bool false)] noT ENL mEn (vEn 7 Z.length n i) (hEn0 C Z) =
 (if decide (i < (n : Int)) = false then
 some ((AEx.exit 0, [AV.sl (some (7, 0)) Z.length 0 false, AV.sl (some (0, 0)) n 0 false, int i64 (n : Int), int i64 i], (hEnsa0 C Z n i)))
 else none) := by
  kernel_rfl

noncomputable def hEnb0 (C : List AV) (Z : List UInt8) (n : Nat) (i : Int) : AHeap := [ABlk.cells C 19 Md.far none, ABlk.dead, ABlk.dead, ABlk.dead, ABlk.dead, ABlk.dead, ABlk.dead, ABlk.dead, ABlk.dead, cells (memC C i) 19 Md.own none, cells (bys (opq plcL (List.take 17 (memC C i)) (intV (memC C i)[17]?))) 1 Md.own none, cells (List.take (Z.length * 1) (bys Z) ++ List.take ((opq plcL (List.take 17 (memC C i)) (intV (memC C i)[17]?)).length * 1) (bys (opq plcL (List.take 17 (memC C i)) (intV (memC C i)[17]?)))) 1 Md.ro none, cells [b8 (u8.wrap (intV (memC C i)[18]?))] 1 Md.own none, cells (List.take ((Z.length + (opq plcL (List.take 17 (memC C i)) (intV (memC C i)[17]?)).length) * 1) (List.take (Z.length * 1) (bys Z) ++ List.take ((opq plcL (List.take 17 (memC C i)) (intV (memC C i)[17]?)).length * 1) (bys (opq plcL (List.take 17 (memC C i)) (intV (memC C i)[17]?)))) ++ [b8 (u8.wrap (intV (memC C i)[18]?))]) 1 Md.own (some 11)]
theorem nfEnb (C : List AV) (Z : List UInt8) (n : Nat) (i : Int) :
 qround Try.prog tEl 100 4 [(41, .bool true)] noT ENL mEn (vEn 8 Z.length n i) (hEn C Z) =
 (if decide (i < (n : Int)) = true then
 (if 0 ≤ i ∧ i < (n : Int) then
 (if 0 + i.toNat * 19 + 19 ≤ C.length then
 (if (List.take 19 (List.drop (0 + i.toNat * 19) C)).length = 19 then
 (if 0 + (List.take 19 (List.drop (0 + i.toNat * 19) C)).length ≤ 19 ∧ (List.take 19 (List.drop (0 + i.toNat * 19) C)).all AV.isCell = true then
 (if 17 ≤ (memC C i).length then
 (if isIntV u16 (memC C i)[17]? = true then
 (if (adrWf (List.take 17 (memC C i)) && decide (0 ≤ intV (memC C i)[17]? ∧ intV (memC C i)[17]? < 65536)) = true then
 (if 0 + (opq plcL (List.take 17 (memC C i)) (intV (memC C i)[17]?)).length * 1 ≤ (bys (opq plcL (List.take 17 (memC C i)) (intV (memC C i)[17]?))).length then
 (if (2 * (Z.length + (opq plcL (List.take 17 (memC C i)) (intV (memC C i)[17]?)).length) + 200) * 1 ≤ 281474976710656 ∧ some 1 = some 1 ∧ Z.length + (opq plcL (List.take 17 (memC C i)) (intV (memC C i)[17]?)).length ≤ 70368744177664 then
 (if 0 + Z.length * 1 ≤ (bys Z).length then
 (if 0 = 0 ∧ 0 + Z.length * 1 = (bys Z).length ∧ (0 < (opq plcL (List.take 17 (memC C i)) (intV (memC C i)[17]?)).length ∨ 0 = 0) ∧ 1 = 1 ∧ (List.take ((opq plcL (List.take 17 (memC C i)) (intV (memC C i)[17]?)).length * 1) (bys (opq plcL (List.take 17 (memC C i)) (intV (memC C i)[17]?)))).all AV.isCell = true then
 (if isIntV i64 (memC C i)[18]? = true then
 (if (2 * (Z.length + (opq plcL (List.take 17 (memC C i)) (intV (memC C i)[17]?)).length + 1) + 200) * 1 ≤ 281474976710656 ∧ some 1 = some 1 ∧ Z.length + (opq plcL (List.take 17 (memC C i)) (intV (memC C i)[17]?)).length + 1 ≤ 70368744177664 then
 (if 0 + (Z.length + (opq plcL (List.take 17 (memC C i)) (intV (memC C i)[17]?)).length) * 1 ≤ (List.take (Z.length * 1) (bys Z) ++ List.take ((opq plcL (List.take 17 (memC C i)) (intV (memC C i)[17]?)).length * 1) (bys (opq plcL (List.take 17 (memC C i)) (intV (memC C i)[17]?)))).length then
 (if 0 = 0 ∧ 0 + (Z.length + (opq plcL (List.take 17 (memC C i)) (intV (memC C i)[17]?)).length) * 1 = (List.take (Z.length * 1) (bys Z) ++ List.take ((opq plcL (List.take 17 (memC C i)) (intV (memC C i)[17]?)).length * 1) (bys (opq plcL (List.take 17 (memC C i)) (intV (memC C i)[17]?)))).length ∧ (0 < 1 ∨ 0 = 0) ∧ 1 = 1 ∧ [b8 (u8.wrap (intV (memC C i)[18]?))].all AV.isCell = true then
 (if isIntV i64 (memC C i)[18]? = true then
 (if (int i64 (intV (memC C i)[18]?)).beq (int i64 (intV (memC C i)[18]?)) = true then
 (if isIntV i64 (memC C i)[18]? = true then
 (if (int i64 (intV (memC C i)[18]?)).beq (int i64 (intV (memC C i)[18]?)) = true then
 some ((AEx.norm, [AV.sl (some (13, 0)) (Z.length + (opq plcL (List.take 17 (memC C i)) (intV (memC C i)[17]?)).length + 1) 0 false, AV.sl (some (0, 0)) n 0 false, int i64 (n : Int), int i64 (i64.wrap (i + 1))], (hEnb0 C Z n i)))
 else none) else none) else none) else none) else none) else none) else none) else none) else none) else none) else none) else none) else none) else none) else none) else none) else none) else none) else none) else none) := by
  kernel_rfl

noncomputable def hEnsb0 (C : List AV) (Z : List UInt8) (n : Nat) (i : Int) : AHeap := [ABlk.cells C 19 Md.far none, ABlk.dead, ABlk.dead, ABlk.dead, ABlk.dead, ABlk.dead, ABlk.dead, ABlk.dead, cells (bys Z) 1 Md.own none]
theorem nfEnsb (C : List AV) (Z : List UInt8) (n : Nat) (i : Int) :
 qround Try.prog tEl 100 4 [(41, .bool false)] noT ENL mEn (vEn 8 Z.length n i) (hEn C Z) =
 (if decide (i < (n : Int)) = false then
 some ((AEx.exit 0, [AV.sl (some (8, 0)) Z.length 0 false, AV.sl (some (0, 0)) n 0 false, int i64 (n : Int), int i64 i], (hEnsb0 C Z n i)))
 else none) := by
  kernel_rfl


end Go.Proofs.Ytjlepcfeeicdfaa.L
