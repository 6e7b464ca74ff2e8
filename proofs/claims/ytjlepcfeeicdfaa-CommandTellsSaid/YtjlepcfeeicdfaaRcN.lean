/- The reference's Decode: rows. -/
import Derived.Test.YtjlepcfeeicdfaaDcK
set_option autoImplicit false
set_option maxRecDepth 100000
set_option linter.unusedVariables false
set_option linter.unusedSimpArgs false
namespace Go.Proofs.Ytjlepcfeeicdfaa.L
open Go Go.Abs
open Go.IntKind (u8 u16 u32 u64 i64)
open Go.Abs.AV (int)
open Go.Abs.ABlk (cells)

def rdC (l : List UInt8) (i : Int) : List AV := if frOk (l.drop i.toNat) then frA (l.drop i.toNat) ++ [.int .u16 (word (l.drop i.toNat) (frN (l.drop i.toNat) - 2))] else dipZ
def rdX (l : List UInt8) (i : Int) : Int := if frOk (l.drop i.toNat) then ((i.toNat + frN (l.drop i.toNat) : Nat) : Int) else 0
def rdB (l : List UInt8) (i : Int) : Bool := decide (frOk (l.drop i.toNat))
noncomputable def eRdL (l : List UInt8) : GEnt := fun args h => match args with
  | [b, .int .i64 i] => some (cdec ((bOk h b = true ∧ bOf h b = l) ∧ nOf b ≤ 1000000000000 ∧ 0 ≤ i ∧ i ≤ 1000000000000), .tup [.agg (opq rdC l i), .int .i64 (opq rdX l i), .bool (opq rdB l i)], h)
  | _ => none
noncomputable def tRl (l : List UInt8) : Tbl := [(28, entF (eRdL l))]
noncomputable abbrev RCL := loopIn (bodyOf Try.prog 24) 0
def mRc : List Bool := [true, false, true, true, false, true, false, true, true, true] ++ List.replicate 124 false
def vRc (l : List UInt8) (a n i : Int) : List AV := [slB 0 l, .ptr (some (1, 0)), .bool false, .int .i64 a, .ptr (some (3, 0)), .int .i64 n, .int .i64 i]
def zCm : List AV := cmA 0 0 false (fun _ => 0) 0 (.sl none 0 0 true)
def hRc (l : List UInt8) (k pr : Int) (w : Bool) (x : Nat → Int) (po : Int) (C : List AV) (m : Nat) : AHeap := [farB l, .cells zCm 21 .own none, .dead, .cells (cmA k pr w x po (.sl (some (4, 0)) m 0 false)) 21 .own none, .cells C 19 .own none]
noncomputable def tRc (v : AV) : Tbl := [(28, entF (eSay eRd [(2, v, [])]))]
theorem tRcOk (v : AV) : ∀ f E, (tRc v).find f = some E → SoundE Try.prog f E := find_cons (sSay sRd _) (find_nil _)
noncomputable def hRcX0 (l : List UInt8) : AHeap := [cells (bys l) 1 Md.far none, cells [int i64 0, b8 0, AV.bool false, b8 0, b8 0, b8 0, b8 0, b8 0, b8 0, b8 0, b8 0, b8 0, b8 0, b8 0, b8 0, b8 0, b8 0, b8 0, b8 0, int u16 0, AV.sl none 0 0 true] 21 Md.own none]
theorem nfRcX {R : Type} (l : List UInt8) (K : AV → AHeap → Option R) :
 qrun Try.prog (tRc (.bool true)) 100 4 [(27, .bool true)] [] 24 [slB 0 l] [farB l] K =
 (if decide ((l.length : Int) < 2) = true then
 K (AV.tup [AV.agg [int i64 0, b8 0, AV.bool false, b8 0, b8 0, b8 0, b8 0, b8 0, b8 0, b8 0, b8 0, b8 0, b8 0, b8 0, b8 0, b8 0, b8 0, b8 0, b8 0, int u16 0, AV.sl none 0 0 true], AV.bool false]) ((hRcX0 l))
 else (if Int.ofNat 0 ≤ Int.ofNat 0 ∧ 0 < (l.length : Int) then
 (if isIntV u8 (bys l)[0]? = true then
 (if decide (intV (bys l)[0]? < 1) = true then
 K (AV.tup [AV.agg [int i64 0, b8 0, AV.bool false, b8 0, b8 0, b8 0, b8 0, b8 0, b8 0, b8 0, b8 0, b8 0, b8 0, b8 0, b8 0, b8 0, b8 0, b8 0, b8 0, int u16 0, AV.sl none 0 0 true], AV.bool false]) ((hRcX0 l))
 else (if Int.ofNat 0 ≤ Int.ofNat 0 ∧ 0 < (l.length : Int) then
 (if isIntV u8 (bys l)[0]? = true then
 (if decide (intV (bys l)[0]? > 5) = true then
 K (AV.tup [AV.agg [int i64 0, b8 0, AV.bool false, b8 0, b8 0, b8 0, b8 0, b8 0, b8 0, b8 0, b8 0, b8 0, b8 0, b8 0, b8 0, b8 0, b8 0, b8 0, b8 0, int u16 0, AV.sl none 0 0 true], AV.bool false]) ((hRcX0 l))
 else none) else none) else none))
 else none) else none)) := by
  kernel_rfl

noncomputable def hRcV0 (l : List UInt8) (w : Bool) (x : Nat → Int) (po nn : Int) (ok : Bool) : AHeap := [cells (bys l) 1 Md.far none, cells [int i64 0, b8 0, AV.bool false, b8 0, b8 0, b8 0, b8 0, b8 0, b8 0, b8 0, b8 0, b8 0, b8 0, b8 0, b8 0, b8 0, b8 0, b8 0, b8 0, int u16 0, AV.sl none 0 0 true] 21 Md.own none]
noncomputable def hRcV1 (l : List UInt8) (w : Bool) (x : Nat → Int) (po nn : Int) (ok : Bool) : AHeap := []
noncomputable def hRcV2 (l : List UInt8) (w : Bool) (x : Nat → Int) (po nn : Int) (ok : Bool) : AHeap := [cells (bys l) 1 Md.far none, cells [int i64 0, b8 0, AV.bool false, b8 0, b8 0, b8 0, b8 0, b8 0, b8 0, b8 0, b8 0, b8 0, b8 0, b8 0, b8 0, b8 0, b8 0, b8 0, b8 0, int u16 0, AV.sl none 0 0 true] 21 Md.own none, cells (adF w x ++ [.int .u16 po]) 18 Md.own none]
theorem nfRcV {R : Type} (l : List UInt8) (w : Bool) (x : Nat → Int) (po nn : Int) (ok : Bool) (K : AV → AHeap → Option R) :
 qrun Try.prog (tRc (.tup [.agg (adF w x ++ [.int .u16 po]), .int .i64 nn, .bool ok])) 100 4 [(27, .bool false), (36, .bool true)] [] 24 [slB 0 l] [farB l] K =
 (if decide ((l.length : Int) < 2) = true then
 none
 else (if Int.ofNat 0 ≤ Int.ofNat 0 ∧ 0 < (l.length : Int) then
 (if isIntV u8 (bys l)[0]? = true then
 (if decide (intV (bys l)[0]? < 1) = true then
 none
 else (if Int.ofNat 0 ≤ Int.ofNat 0 ∧ 0 < (l.length : Int) then
 (if isIntV u8 (bys l)[0]? = true then
 (if decide (intV (bys l)[0]? > 5) = false then
 (if cdec (Says eRd [AV.sl (some (0, 0)) l.length 0 false, int i64 2] (hRcV0 l w x po nn ok) (AV.tup [AV.agg (adF w x ++ [.int .u16 po]), int i64 nn, AV.bool ok]) (hRcV1 l w x po nn ok)) = true then
 (if (!ok) = true then
 K (AV.tup [AV.agg [int i64 0, b8 0, AV.bool false, b8 0, b8 0, b8 0, b8 0, b8 0, b8 0, b8 0, b8 0, b8 0, b8 0, b8 0, b8 0, b8 0, b8 0, b8 0, b8 0, int u16 0, AV.sl none 0 0 true], AV.bool false]) ((hRcV2 l w x po nn ok))
 else none) else none) else none) else none) else none))
 else none) else none)) := by
  kernel_rfl

noncomputable def hRcD0 (l : List UInt8) (w : Bool) (x : Nat → Int) (po nn : Int) (ok : Bool) : AHeap := [cells (bys l) 1 Md.far none, cells [int i64 0, b8 0, AV.bool false, b8 0, b8 0, b8 0, b8 0, b8 0, b8 0, b8 0, b8 0, b8 0, b8 0, b8 0, b8 0, b8 0, b8 0, b8 0, b8 0, int u16 0, AV.sl none 0 0 true] 21 Md.own none]
noncomputable def hRcD1 (l : List UInt8) (w : Bool) (x : Nat → Int) (po nn : Int) (ok : Bool) : AHeap := []
noncomputable def hRcD2 (l : List UInt8) (w : Bool) (x : Nat → Int) (po nn : Int) (ok : Bool) : AHeap := [cells (bys l) 1 Md.far none, cells [int i64 (i64.wrap (intV (bys l)[0]?)), b8 (intV (bys l)[1]?), AV.bool w, b8 (x 0), b8 (x 1), b8 (x 2), b8 (x 3), b8 (x 4), b8 (x 5), b8 (x 6), b8 (x 7), b8 (x 8), b8 (x 9), b8 (x 10), b8 (x 11), b8 (x 12), b8 (x 13), b8 (x 14), b8 (x 15), int u16 (intV (some (int u16 po))), AV.sl none 0 0 true] 21 Md.own none, cells (adF w x ++ [.int .u16 po]) 18 Md.own none, cells [int i64 (i64.wrap (intV (bys l)[0]?)), b8 (intV (bys l)[1]?), AV.bool w, b8 (x 0), b8 (x 1), b8 (x 2), b8 (x 3), b8 (x 4), b8 (x 5), b8 (x 6), b8 (x 7), b8 (x 8), b8 (x 9), b8 (x 10), b8 (x 11), b8 (x 12), b8 (x 13), b8 (x 14), b8 (x 15), int u16 (intV (some (int u16 po))), AV.sl none 0 0 true] 21 Md.own none]
theorem nfRcD {R : Type} (l : List UInt8) (w : Bool) (x : Nat → Int) (po nn : Int) (ok : Bool) (K : AV → AHeap → Option R) :
 qrun Try.prog (tRc (.tup [.agg (adF w x ++ [.int .u16 po]), .int .i64 nn, .bool ok])) 100 4 [(27, .bool false), (36, .bool false), (53, .bool true)] [] 24 [slB 0 l] [farB l] K =
 (if decide ((l.length : Int) < 2) = true then
 none
 else (if Int.ofNat 0 ≤ Int.ofNat 0 ∧ 0 < (l.length : Int) then
 (if isIntV u8 (bys l)[0]? = true then
 (if decide (intV (bys l)[0]? < 1) = true then
 none
 else (if Int.ofNat 0 ≤ Int.ofNat 0 ∧ 0 < (l.length : Int) then
 (if isIntV u8 (bys l)[0]? = true then
 (if decide (intV (bys l)[0]? > 5) = false then
 (if cdec (Says eRd [AV.sl (some (0, 0)) l.length 0 false, int i64 2] (hRcD0 l w x po nn ok) (AV.tup [AV.agg (adF w x ++ [.int .u16 po]), int i64 nn, AV.bool ok]) (hRcD1 l w x po nn ok)) = true then
 (if (!ok) = false then
 (if Int.ofNat 0 ≤ Int.ofNat 0 ∧ 0 < (l.length : Int) then
 (if isIntV u8 (bys l)[0]? = true then
 (if Int.ofNat 0 ≤ Int.ofNat 1 ∧ 1 < (l.length : Int) then
 (if isIntV u8 (bys l)[1]? = true then
 (if (intV (some (int i64 (i64.wrap (intV (bys l)[0]?)))) == 2) = true then
 K (AV.tup [AV.agg [int i64 (i64.wrap (intV (bys l)[0]?)), b8 (intV (bys l)[1]?), AV.bool w, b8 (x 0), b8 (x 1), b8 (x 2), b8 (x 3), b8 (x 4), b8 (x 5), b8 (x 6), b8 (x 7), b8 (x 8), b8 (x 9), b8 (x 10), b8 (x 11), b8 (x 12), b8 (x 13), b8 (x 14), b8 (x 15), int u16 (intV (some (int u16 po))), AV.sl none 0 0 true], AV.bool (nn == (l.length : Int))]) ((hRcD2 l w x po nn ok))
 else none) else none) else none) else none) else none) else none) else none) else none) else none) else none))
 else none) else none)) := by
  kernel_rfl

noncomputable def hRcO0 (l : List UInt8) (w : Bool) (x : Nat → Int) (po nn : Int) (ok : Bool) : AHeap := [cells (bys l) 1 Md.far none, cells [int i64 0, b8 0, AV.bool false, b8 0, b8 0, b8 0, b8 0, b8 0, b8 0, b8 0, b8 0, b8 0, b8 0, b8 0, b8 0, b8 0, b8 0, b8 0, b8 0, int u16 0, AV.sl none 0 0 true] 21 Md.own none]
noncomputable def hRcO1 (l : List UInt8) (w : Bool) (x : Nat → Int) (po nn : Int) (ok : Bool) : AHeap := []
noncomputable def hRcO2 (l : List UInt8) (w : Bool) (x : Nat → Int) (po nn : Int) (ok : Bool) : AHeap := [cells (bys l) 1 Md.far none, cells [int i64 0, b8 0, AV.bool false, b8 0, b8 0, b8 0, b8 0, b8 0, b8 0, b8 0, b8 0, b8 0, b8 0, b8 0, b8 0, b8 0, b8 0, b8 0, b8 0, int u16 0, AV.sl none 0 0 true] 21 Md.own none, cells (adF w x ++ [.int .u16 po]) 18 Md.own none, cells [int i64 (i64.wrap (intV (bys l)[0]?)), b8 (intV (bys l)[1]?), AV.bool w, b8 (x 0), b8 (x 1), b8 (x 2), b8 (x 3), b8 (x 4), b8 (x 5), b8 (x 6), b8 (x 7), b8 (x 8), b8 (x 9), b8 (x 10), b8 (x 11), b8 (x 12), b8 (x 13), b8 (x 14), b8 (x 15), int u16 (intV (some (int u16 po))), AV.sl none 0 0 true] 21 Md.own none]
theorem nfRcO {R : Type} (l : List UInt8) (w : Bool) (x : Nat → Int) (po nn : Int) (ok : Bool) (K : AV → AHeap → Option R) :
 qrun Try.prog (tRc (.tup [.agg (adF w x ++ [.int .u16 po]), .int .i64 nn, .bool ok])) 100 4 [(27, .bool false), (36, .bool false), (53, .bool false), (62, .bool true)] [] 24 [slB 0 l] [farB l] K =
 (if decide ((l.length : Int) < 2) = true then
 none
 else (if Int.ofNat 0 ≤ Int.ofNat 0 ∧ 0 < (l.length : Int) then
 (if isIntV u8 (bys l)[0]? = true then
 (if decide (intV (bys l)[0]? < 1) = true then
 none
 else (if Int.ofNat 0 ≤ Int.ofNat 0 ∧ 0 < (l.length : Int) then
 (if isIntV u8 (bys l)[0]? = true then
 (if decide (intV (bys l)[0]? > 5) = false then
 (if cdec (Says eRd [AV.sl (some (0, 0)) l.length 0 false, int i64 2] (hRcO0 l w x po nn ok) (AV.tup [AV.agg (adF w x ++ [.int .u16 po]), int i64 nn, AV.bool ok]) (hRcO1 l w x po nn ok)) = true then
 (if (!ok) = false then
 (if Int.ofNat 0 ≤ Int.ofNat 0 ∧ 0 < (l.length : Int) then
 (if isIntV u8 (bys l)[0]? = true then
 (if Int.ofNat 0 ≤ Int.ofNat 1 ∧ 1 < (l.length : Int) then
 (if isIntV u8 (bys l)[1]? = true then
 (if (intV (some (int i64 (i64.wrap (intV (bys l)[0]?)))) == 2) = false then
 (if decide (nn ≥ (l.length : Int)) = true then
 K (AV.tup [AV.agg [int i64 0, b8 0, AV.bool false, b8 0, b8 0, b8 0, b8 0, b8 0, b8 0, b8 0, b8 0, b8 0, b8 0, b8 0, b8 0, b8 0, b8 0, b8 0, b8 0, int u16 0, AV.sl none 0 0 true], AV.bool false]) ((hRcO2 l w x po nn ok))
 else none) else none) else none) else none) else none) else none) else none) else none) else none) else none) else none))
 else none) else none)) := by
  kernel_rfl

noncomputable def hRcG0 (l : List UInt8) (w : Bool) (x : Nat → Int) (po nn : Int) (ok : Bool) (q : Prop) (vs0 : List AV) (h0 : AHeap) (k pr : Int) (C : List AV) (m : Nat) (a n i : Int) : AHeap := [cells (bys l) 1 Md.far none, cells [int i64 0, b8 0, AV.bool false, b8 0, b8 0, b8 0, b8 0, b8 0, b8 0, b8 0, b8 0, b8 0, b8 0, b8 0, b8 0, b8 0, b8 0, b8 0, b8 0, int u16 0, AV.sl none 0 0 true] 21 Md.own none]
noncomputable def hRcG1 (l : List UInt8) (w : Bool) (x : Nat → Int) (po nn : Int) (ok : Bool) (q : Prop) (vs0 : List AV) (h0 : AHeap) (k pr : Int) (C : List AV) (m : Nat) (a n i : Int) : AHeap := []
noncomputable def hRcG2 (l : List UInt8) (w : Bool) (x : Nat → Int) (po nn : Int) (ok : Bool) (q : Prop) (vs0 : List AV) (h0 : AHeap) (k pr : Int) (C : List AV) (m : Nat) (a n i : Int) : AHeap := [cells (bys l) 1 Md.far none, cells [int i64 0, b8 0, AV.bool false, b8 0, b8 0, b8 0, b8 0, b8 0, b8 0, b8 0, b8 0, b8 0, b8 0, b8 0, b8 0, b8 0, b8 0, b8 0, b8 0, int u16 0, AV.sl none 0 0 true] 21 Md.own none, cells (adF w x ++ [.int .u16 po]) 18 Md.own none, cells [int i64 (i64.wrap (intV (bys l)[0]?)), b8 (intV (bys l)[1]?), AV.bool w, b8 (x 0), b8 (x 1), b8 (x 2), b8 (x 3), b8 (x 4), b8 (x 5), b8 (x 6), b8 (x 7), b8 (x 8), b8 (x 9), b8 (x 10), b8 (x 11), b8 (x 12), b8 (x 13), b8 (x 14), b8 (x 15), int u16 (intV (some (int u16 po))), AV.sl none 0 0 true] 21 Md.own none]
noncomputable def hRcG3 (l : List UInt8) (w : Bool) (x : Nat → Int) (po nn : Int) (ok : Bool) (q : Prop) (vs0 : List AV) (h0 : AHeap) (k pr : Int) (C : List AV) (m : Nat) (a n i : Int) : AHeap := [cells (bys l) 1 Md.far none, cells [int i64 k, b8 pr, AV.bool w, b8 (x 0), b8 (x 1), b8 (x 2), b8 (x 3), b8 (x 4), b8 (x 5), b8 (x 6), b8 (x 7), b8 (x 8), b8 (x 9), b8 (x 10), b8 (x 11), b8 (x 12), b8 (x 13), b8 (x 14), b8 (x 15), int u16 po, AV.sl (some (4, 0)) m 0 false] 21 Md.own none, ABlk.dead, cells [int i64 k, b8 pr, AV.bool w, b8 (x 0), b8 (x 1), b8 (x 2), b8 (x 3), b8 (x 4), b8 (x 5), b8 (x 6), b8 (x 7), b8 (x 8), b8 (x 9), b8 (x 10), b8 (x 11), b8 (x 12), b8 (x 13), b8 (x 14), b8 (x 15), int u16 po, AV.sl (some (4, 0)) m 0 false] 21 Md.own none, ABlk.cells C 19 Md.own none]
theorem nfRcG {R : Type} (l : List UInt8) (w : Bool) (x : Nat → Int) (po nn : Int) (ok : Bool) (q : Prop) (vs0 : List AV) (h0 : AHeap) (k pr : Int) (C : List AV) (m : Nat) (a n i : Int) (K : AV → AHeap → Option R) :
 qrun Try.prog (tRc (.tup [.agg (adF w x ++ [.int .u16 po]), .int .i64 nn, .bool ok])) 100 4 [(27, .bool false), (36, .bool false), (53, .bool false), (62, .bool false), (131, .bool false)] [(14, fixC q mRc vs0 h0 (.exit 0) (vRc l a n i) (hRc l k pr w x po C m))] 24 [slB 0 l] [farB l] K =
 (if decide ((l.length : Int) < 2) = true then
 none
 else (if Int.ofNat 0 ≤ Int.ofNat 0 ∧ 0 < (l.length : Int) then
 (if isIntV u8 (bys l)[0]? = true then
 (if decide (intV (bys l)[0]? < 1) = true then
 none
 else (if Int.ofNat 0 ≤ Int.ofNat 0 ∧ 0 < (l.length : Int) then
 (if isIntV u8 (bys l)[0]? = true then
 (if decide (intV (bys l)[0]? > 5) = false then
 (if cdec (Says eRd [AV.sl (some (0, 0)) l.length 0 false, int i64 2] (hRcG0 l w x po nn ok q vs0 h0 k pr C m a n i) (AV.tup [AV.agg (adF w x ++ [.int .u16 po]), int i64 nn, AV.bool ok]) (hRcG1 l w x po nn ok q vs0 h0 k pr C m a n i)) = true then
 (if (!ok) = false then
 (if Int.ofNat 0 ≤ Int.ofNat 0 ∧ 0 < (l.length : Int) then
 (if isIntV u8 (bys l)[0]? = true then
 (if Int.ofNat 0 ≤ Int.ofNat 1 ∧ 1 < (l.length : Int) then
 (if isIntV u8 (bys l)[1]? = true then
 (if (intV (some (int i64 (i64.wrap (intV (bys l)[0]?)))) == 2) = false then
 (if decide (nn ≥ (l.length : Int)) = false then
 (if 0 ≤ nn ∧ nn < (l.length : Int) then
 (if isIntV u8 (bys l)[0 + nn.toNat * 1]? = true then
 (if cdec (q ∧ [AV.sl (some (0, 0)) l.length 0 false, AV.ptr (some (1, 0)), AV.bool false, int i64 (i64.wrap (nn + 1)), AV.ptr (some (3, 0)), int i64 (i64.wrap (intV (bys l)[0 + nn.toNat * 1]?)), int i64 0] = vs0 ∧ (hRcG2 l w x po nn ok q vs0 h0 k pr C m a n i) = h0) = true then
 (if (a != (l.length : Int)) = true then
 none
 else (if (intV (some (int i64 k)) != 1) = true then
 (if (n != 1) = true then
 none
 else (if (intV (some (int i64 k)) == 4) = true then
 (if Int.ofNat 0 ≤ Int.ofNat 0 ∧ 0 < (m : Int) then
 (if isIntV i64 C[18]? = true then
 (if (intV C[18]? != 0) = false then
 K (AV.tup [AV.agg [int i64 k, b8 pr, AV.bool w, b8 (x 0), b8 (x 1), b8 (x 2), b8 (x 3), b8 (x 4), b8 (x 5), b8 (x 6), b8 (x 7), b8 (x 8), b8 (x 9), b8 (x 10), b8 (x 11), b8 (x 12), b8 (x 13), b8 (x 14), b8 (x 15), int u16 po, AV.sl (some (4, 0)) m 0 false], AV.bool true]) ((hRcG3 l w x po nn ok q vs0 h0 k pr C m a n i))
 else none) else none) else none)
 else K (AV.tup [AV.agg [int i64 k, b8 pr, AV.bool w, b8 (x 0), b8 (x 1), b8 (x 2), b8 (x 3), b8 (x 4), b8 (x 5), b8 (x 6), b8 (x 7), b8 (x 8), b8 (x 9), b8 (x 10), b8 (x 11), b8 (x 12), b8 (x 13), b8 (x 14), b8 (x 15), int u16 po, AV.sl (some (4, 0)) m 0 false], AV.bool true]) ((hRcG3 l w x po nn ok q vs0 h0 k pr C m a n i))))
 else (if (intV (some (int i64 k)) == 4) = true then
 (if Int.ofNat 0 ≤ Int.ofNat 0 ∧ 0 < (m : Int) then
 (if isIntV i64 C[18]? = true then
 (if (intV C[18]? != 0) = false then
 K (AV.tup [AV.agg [int i64 k, b8 pr, AV.bool w, b8 (x 0), b8 (x 1), b8 (x 2), b8 (x 3), b8 (x 4), b8 (x 5), b8 (x 6), b8 (x 7), b8 (x 8), b8 (x 9), b8 (x 10), b8 (x 11), b8 (x 12), b8 (x 13), b8 (x 14), b8 (x 15), int u16 po, AV.sl (some (4, 0)) m 0 false], AV.bool true]) ((hRcG3 l w x po nn ok q vs0 h0 k pr C m a n i))
 else none) else none) else none)
 else K (AV.tup [AV.agg [int i64 k, b8 pr, AV.bool w, b8 (x 0), b8 (x 1), b8 (x 2), b8 (x 3), b8 (x 4), b8 (x 5), b8 (x 6), b8 (x 7), b8 (x 8), b8 (x 9), b8 (x 10), b8 (x 11), b8 (x 12), b8 (x 13), b8 (x 14), b8 (x 15), int u16 po, AV.sl (some (4, 0)) m 0 false], AV.bool true]) ((hRcG3 l w x po nn ok q vs0 h0 k pr C m a n i)))))
 else none) else none) else none) else none) else none) else none) else none) else none) else none) else none) else none) else none) else none) else none))
 else none) else none)) := by
  kernel_rfl

noncomputable def hRcF0 (l : List UInt8) (w : Bool) (x : Nat → Int) (po nn : Int) (ok : Bool) (q : Prop) (vs0 : List AV) (h0 : AHeap) (k pr : Int) (C : List AV) (m : Nat) (a n i : Int) : AHeap := [cells (bys l) 1 Md.far none, cells [int i64 0, b8 0, AV.bool false, b8 0, b8 0, b8 0, b8 0, b8 0, b8 0, b8 0, b8 0, b8 0, b8 0, b8 0, b8 0, b8 0, b8 0, b8 0, b8 0, int u16 0, AV.sl none 0 0 true] 21 Md.own none]
noncomputable def hRcF1 (l : List UInt8) (w : Bool) (x : Nat → Int) (po nn : Int) (ok : Bool) (q : Prop) (vs0 : List AV) (h0 : AHeap) (k pr : Int) (C : List AV) (m : Nat) (a n i : Int) : AHeap := []
noncomputable def hRcF2 (l : List UInt8) (w : Bool) (x : Nat → Int) (po nn : Int) (ok : Bool) (q : Prop) (vs0 : List AV) (h0 : AHeap) (k pr : Int) (C : List AV) (m : Nat) (a n i : Int) : AHeap := [cells (bys l) 1 Md.far none, cells [int i64 0, b8 0, AV.bool false, b8 0, b8 0, b8 0, b8 0, b8 0, b8 0, b8 0, b8 0, b8 0, b8 0, b8 0, b8 0, b8 0, b8 0, b8 0, b8 0, int u16 0, AV.sl none 0 0 true] 21 Md.own none, cells (adF w x ++ [.int .u16 po]) 18 Md.own none, cells [int i64 (i64.wrap (intV (bys l)[0]?)), b8 (intV (bys l)[1]?), AV.bool w, b8 (x 0), b8 (x 1), b8 (x 2), b8 (x 3), b8 (x 4), b8 (x 5), b8 (x 6), b8 (x 7), b8 (x 8), b8 (x 9), b8 (x 10), b8 (x 11), b8 (x 12), b8 (x 13), b8 (x 14), b8 (x 15), int u16 (intV (some (int u16 po))), AV.sl none 0 0 true] 21 Md.own none]
noncomputable def hRcF3 (l : List UInt8) (w : Bool) (x : Nat → Int) (po nn : Int) (ok : Bool) (q : Prop) (vs0 : List AV) (h0 : AHeap) (k pr : Int) (C : List AV) (m : Nat) (a n i : Int) : AHeap := [cells (bys l) 1 Md.far none, cells [int i64 0, b8 0, AV.bool false, b8 0, b8 0, b8 0, b8 0, b8 0, b8 0, b8 0, b8 0, b8 0, b8 0, b8 0, b8 0, b8 0, b8 0, b8 0, b8 0, int u16 0, AV.sl none 0 0 true] 21 Md.own none, ABlk.dead, cells [int i64 k, b8 pr, AV.bool w, b8 (x 0), b8 (x 1), b8 (x 2), b8 (x 3), b8 (x 4), b8 (x 5), b8 (x 6), b8 (x 7), b8 (x 8), b8 (x 9), b8 (x 10), b8 (x 11), b8 (x 12), b8 (x 13), b8 (x 14), b8 (x 15), int u16 po, AV.sl (some (4, 0)) m 0 false] 21 Md.own none, ABlk.cells C 19 Md.own none]
theorem nfRcF {R : Type} (l : List UInt8) (w : Bool) (x : Nat → Int) (po nn : Int) (ok : Bool) (q : Prop) (vs0 : List AV) (h0 : AHeap) (k pr : Int) (C : List AV) (m : Nat) (a n i : Int) (K : AV → AHeap → Option R) :
 qrun Try.prog (tRc (.tup [.agg (adF w x ++ [.int .u16 po]), .int .i64 nn, .bool ok])) 100 4 [(27, .bool false), (36, .bool false), (53, .bool false), (62, .bool false), (131, .bool true)] [(14, fixC q mRc vs0 h0 (.exit 0) (vRc l a n i) (hRc l k pr w x po C m))] 24 [slB 0 l] [farB l] K =
 (if decide ((l.length : Int) < 2) = true then
 none
 else (if Int.ofNat 0 ≤ Int.ofNat 0 ∧ 0 < (l.length : Int) then
 (if isIntV u8 (bys l)[0]? = true then
 (if decide (intV (bys l)[0]? < 1) = true then
 none
 else (if Int.ofNat 0 ≤ Int.ofNat 0 ∧ 0 < (l.length : Int) then
 (if isIntV u8 (bys l)[0]? = true then
 (if decide (intV (bys l)[0]? > 5) = false then
 (if cdec (Says eRd [AV.sl (some (0, 0)) l.length 0 false, int i64 2] (hRcF0 l w x po nn ok q vs0 h0 k pr C m a n i) (AV.tup [AV.agg (adF w x ++ [.int .u16 po]), int i64 nn, AV.bool ok]) (hRcF1 l w x po nn ok q vs0 h0 k pr C m a n i)) = true then
 (if (!ok) = false then
 (if Int.ofNat 0 ≤ Int.ofNat 0 ∧ 0 < (l.length : Int) then
 (if isIntV u8 (bys l)[0]? = true then
 (if Int.ofNat 0 ≤ Int.ofNat 1 ∧ 1 < (l.length : Int) then
 (if isIntV u8 (bys l)[1]? = true then
 (if (intV (some (int i64 (i64.wrap (intV (bys l)[0]?)))) == 2) = false then
 (if decide (nn ≥ (l.length : Int)) = false then
 (if 0 ≤ nn ∧ nn < (l.length : Int) then
 (if isIntV u8 (bys l)[0 + nn.toNat * 1]? = true then
 (if cdec (q ∧ [AV.sl (some (0, 0)) l.length 0 false, AV.ptr (some (1, 0)), AV.bool false, int i64 (i64.wrap (nn + 1)), AV.ptr (some (3, 0)), int i64 (i64.wrap (intV (bys l)[0 + nn.toNat * 1]?)), int i64 0] = vs0 ∧ (hRcF2 l w x po nn ok q vs0 h0 k pr C m a n i) = h0) = true then
 (if (a != (l.length : Int)) = true then
 K (AV.tup [AV.agg [int i64 0, b8 0, AV.bool false, b8 0, b8 0, b8 0, b8 0, b8 0, b8 0, b8 0, b8 0, b8 0, b8 0, b8 0, b8 0, b8 0, b8 0, b8 0, b8 0, int u16 0, AV.sl none 0 0 true], AV.bool false]) ((hRcF3 l w x po nn ok q vs0 h0 k pr C m a n i))
 else (if (intV (some (int i64 k)) != 1) = true then
 (if (n != 1) = true then
 K (AV.tup [AV.agg [int i64 0, b8 0, AV.bool false, b8 0, b8 0, b8 0, b8 0, b8 0, b8 0, b8 0, b8 0, b8 0, b8 0, b8 0, b8 0, b8 0, b8 0, b8 0, b8 0, int u16 0, AV.sl none 0 0 true], AV.bool false]) ((hRcF3 l w x po nn ok q vs0 h0 k pr C m a n i))
 else (if (intV (some (int i64 k)) == 4) = true then
 (if Int.ofNat 0 ≤ Int.ofNat 0 ∧ 0 < (m : Int) then
 (if isIntV i64 C[18]? = true then
 (if (intV C[18]? != 0) = true then
 K (AV.tup [AV.agg [int i64 0, b8 0, AV.bool false, b8 0, b8 0, b8 0, b8 0, b8 0, b8 0, b8 0, b8 0, b8 0, b8 0, b8 0, b8 0, b8 0, b8 0, b8 0, b8 0, int u16 0, AV.sl none 0 0 true], AV.bool false]) ((hRcF3 l w x po nn ok q vs0 h0 k pr C m a n i))
 else none) else none) else none) else none))
 else (if (intV (some (int i64 k)) == 4) = true then
 (if Int.ofNat 0 ≤ Int.ofNat 0 ∧ 0 < (m : Int) then
 (if isIntV i64 C[18]? = true then
 (if (intV C[18]? != 0) = true then
 K (AV.tup [AV.agg [int i64 0, b8 0, AV.bool false, b8 0, b8 0, b8 0, b8 0, b8 0, b8 0, b8 0, b8 0, b8 0, b8 0, b8 0, b8 0, b8 0, b8 0, b8 0, b8 0, int u16 0, AV.sl none 0 0 true], AV.bool false]) ((hRcF3 l w x po nn ok q vs0 h0 k pr C m a n i))
 else none) else none) else none) else none)))
 else none) else none) else none) else none) else none) else none) else none) else none) else none) else none) else none) else none) else none) else none))
 else none) else none)) := by
  kernel_rfl

noncomputable def hRcB0 (l : List UInt8) (w : Bool) (x : Nat → Int) (po nn : Int) (ok : Bool) (q : Prop) (vs0 : List AV) (h0 : AHeap) (k pr : Int) (C : List AV) (m : Nat) (a n i : Int) : AHeap := [cells (bys l) 1 Md.far none, cells [int i64 0, b8 0, AV.bool false, b8 0, b8 0, b8 0, b8 0, b8 0, b8 0, b8 0, b8 0, b8 0, b8 0, b8 0, b8 0, b8 0, b8 0, b8 0, b8 0, int u16 0, AV.sl none 0 0 true] 21 Md.own none]
noncomputable def hRcB1 (l : List UInt8) (w : Bool) (x : Nat → Int) (po nn : Int) (ok : Bool) (q : Prop) (vs0 : List AV) (h0 : AHeap) (k pr : Int) (C : List AV) (m : Nat) (a n i : Int) : AHeap := []
noncomputable def hRcB2 (l : List UInt8) (w : Bool) (x : Nat → Int) (po nn : Int) (ok : Bool) (q : Prop) (vs0 : List AV) (h0 : AHeap) (k pr : Int) (C : List AV) (m : Nat) (a n i : Int) : AHeap := [cells (bys l) 1 Md.far none, cells [int i64 0, b8 0, AV.bool false, b8 0, b8 0, b8 0, b8 0, b8 0, b8 0, b8 0, b8 0, b8 0, b8 0, b8 0, b8 0, b8 0, b8 0, b8 0, b8 0, int u16 0, AV.sl none 0 0 true] 21 Md.own none, cells (adF w x ++ [.int .u16 po]) 18 Md.own none, cells [int i64 (i64.wrap (intV (bys l)[0]?)), b8 (intV (bys l)[1]?), AV.bool w, b8 (x 0), b8 (x 1), b8 (x 2), b8 (x 3), b8 (x 4), b8 (x 5), b8 (x 6), b8 (x 7), b8 (x 8), b8 (x 9), b8 (x 10), b8 (x 11), b8 (x 12), b8 (x 13), b8 (x 14), b8 (x 15), int u16 (intV (some (int u16 po))), AV.sl none 0 0 true] 21 Md.own none]
noncomputable def hRcB3 (l : List UInt8) (w : Bool) (x : Nat → Int) (po nn : Int) (ok : Bool) (q : Prop) (vs0 : List AV) (h0 : AHeap) (k pr : Int) (C : List AV) (m : Nat) (a n i : Int) : AHeap := [cells (bys l) 1 Md.far none, ABlk.cells zCm 21 Md.own none, ABlk.dead, cells [int i64 k, b8 pr, AV.bool w, b8 (x 0), b8 (x 1), b8 (x 2), b8 (x 3), b8 (x 4), b8 (x 5), b8 (x 6), b8 (x 7), b8 (x 8), b8 (x 9), b8 (x 10), b8 (x 11), b8 (x 12), b8 (x 13), b8 (x 14), b8 (x 15), int u16 po, AV.sl (some (4, 0)) m 0 false] 21 Md.own none, ABlk.cells C 19 Md.own none]
theorem nfRcB {R : Type} (l : List UInt8) (w : Bool) (x : Nat → Int) (po nn : Int) (ok : Bool) (q : Prop) (vs0 : List AV) (h0 : AHeap) (k pr : Int) (C : List AV) (m : Nat) (a n i : Int) (K : AV → AHeap → Option R) :
 qrun Try.prog (tRc (.tup [.agg (adF w x ++ [.int .u16 po]), .int .i64 nn, .bool ok])) 100 4 [(27, .bool false), (36, .bool false), (53, .bool false), (62, .bool false)] [(14, fixC q mRc vs0 h0 .ret (vRc l a n i) (hRc l k pr w x po C m))] 24 [slB 0 l] [farB l] K =
 (if decide ((l.length : Int) < 2) = true then
 none
 else (if Int.ofNat 0 ≤ Int.ofNat 0 ∧ 0 < (l.length : Int) then
 (if isIntV u8 (bys l)[0]? = true then
 (if decide (intV (bys l)[0]? < 1) = true then
 none
 else (if Int.ofNat 0 ≤ Int.ofNat 0 ∧ 0 < (l.length : Int) then
 (if isIntV u8 (bys l)[0]? = true then
 (if decide (intV (bys l)[0]? > 5) = false then
 (if cdec (Says eRd [AV.sl (some (0, 0)) l.length 0 false, int i64 2] (hRcB0 l w x po nn ok q vs0 h0 k pr C m a n i) (AV.tup [AV.agg (adF w x ++ [.int .u16 po]), int i64 nn, AV.bool ok]) (hRcB1 l w x po nn ok q vs0 h0 k pr C m a n i)) = true then
 (if (!ok) = false then
 (if Int.ofNat 0 ≤ Int.ofNat 0 ∧ 0 < (l.length : Int) then
 (if isIntV u8 (bys l)[0]? = true then
 (if Int.ofNat 0 ≤ Int.ofNat 1 ∧ 1 < (l.length : Int) then
 (if isIntV u8 (bys l)[1]? = true then
 (if (intV (some (int i64 (i64.wrap (intV (bys l)[0]?)))) == 2) = false then
 (if decide (nn ≥ (l.length : Int)) = false then
 (if 0 ≤ nn ∧ nn < (l.length : Int) then
 (if isIntV u8 (bys l)[0 + nn.toNat * 1]? = true then
 (if cdec (q ∧ [AV.sl (some (0, 0)) l.length 0 false, AV.ptr (some (1, 0)), AV.bool false, int i64 (i64.wrap (nn + 1)), AV.ptr (some (3, 0)), int i64 (i64.wrap (intV (bys l)[0 + nn.toNat * 1]?)), int i64 0] = vs0 ∧ (hRcB2 l w x po nn ok q vs0 h0 k pr C m a n i) = h0) = true then
 K (AV.tup [AV.agg [int i64 0, b8 0, AV.bool false, b8 0, b8 0, b8 0, b8 0, b8 0, b8 0, b8 0, b8 0, b8 0, b8 0, b8 0, b8 0, b8 0, b8 0, b8 0, b8 0, int u16 0, AV.sl none 0 0 true], AV.bool false]) ((hRcB3 l w x po nn ok q vs0 h0 k pr C m a n i))
 else none) else none) else none) else none) else none) else none) else none) else none) else none) else none) else none) else none) else none) else none))
 else none) else none)) := by
  kernel_rfl

noncomputable def hRcrR0 (l : List UInt8) (k pr : Int) (w : Bool) (x : Nat → Int) (po : Int) (C : List AV) (m : Nat) (a n i : Int) : AHeap := [cells (bys l) 1 Md.far none, ABlk.cells zCm 21 Md.own none, ABlk.dead, cells [int i64 k, b8 pr, AV.bool w, b8 (x 0), b8 (x 1), b8 (x 2), b8 (x 3), b8 (x 4), b8 (x 5), b8 (x 6), b8 (x 7), b8 (x 8), b8 (x 9), b8 (x 10), b8 (x 11), b8 (x 12), b8 (x 13), b8 (x 14), b8 (x 15), int u16 po, AV.sl (some (4, 0)) m 0 false] 21 Md.own none, ABlk.cells C 19 Md.own none]
noncomputable def hRcrR1 (l : List UInt8) (k pr : Int) (w : Bool) (x : Nat → Int) (po : Int) (C : List AV) (m : Nat) (a n i : Int) : AHeap := [cells (bys l) 1 Md.far none, ABlk.cells zCm 21 Md.own none, ABlk.dead, cells [int i64 k, b8 pr, AV.bool w, b8 (x 0), b8 (x 1), b8 (x 2), b8 (x 3), b8 (x 4), b8 (x 5), b8 (x 6), b8 (x 7), b8 (x 8), b8 (x 9), b8 (x 10), b8 (x 11), b8 (x 12), b8 (x 13), b8 (x 14), b8 (x 15), int u16 po, AV.sl (some (7, 0)) (m + 1) 0 false] 21 Md.own none, ABlk.cells C 19 Md.ro none, cells (putCells dipZ 0 (opq rdC l a)) 18 Md.own none, cells (putCells m19Z 0 (putCells (putCells m19Z 0 (List.take 18 (putCells dipZ 0 (opq rdC l a)))) 18 [int i64 (i64.wrap (intV (bys l)[0 + (opq rdX l a).toNat * 1]?))])) 19 Md.own none, cells (List.take (m * 19) C ++ List.take 19 (putCells m19Z 0 (putCells (putCells m19Z 0 (List.take 18 (putCells dipZ 0 (opq rdC l a)))) 18 [int i64 (i64.wrap (intV (bys l)[0 + (opq rdX l a).toNat * 1]?))]))) 19 Md.own (some 4)]
theorem nfRcrR (l : List UInt8) (k pr : Int) (w : Bool) (x : Nat → Int) (po : Int) (C : List AV) (m : Nat) (a n i : Int) :
 qround Try.prog (tRl l) 100 4 [(73, .bool true), (90, .bool false)] noT RCL mRc (vRc l a n i) (hRc l k pr w x po C m) =
 (if decide (i < n) = true then
 (if cdec ((bOk (hRcrR0 l k pr w x po C m a n i) (AV.sl (some (0, 0)) l.length 0 false) = true ∧ bOf (hRcrR0 l k pr w x po C m a n i) (AV.sl (some (0, 0)) l.length 0 false) = l) ∧ nOf (AV.sl (some (0, 0)) l.length 0 false) ≤ 1000000000000 ∧ 0 ≤ a ∧ a ≤ 1000000000000) = true then
 (if (opq rdC l a).length = 18 then
 (if 0 + (opq rdC l a).length ≤ 18 ∧ (opq rdC l a).all AV.isCell = true then
 (if (!opq rdB l a) = true then
 none
 else (if decide (opq rdX l a ≥ (l.length : Int)) = false then
 (if 18 ≤ (putCells dipZ 0 (opq rdC l a)).length then
 (if 0 ≤ opq rdX l a ∧ opq rdX l a < (l.length : Int) then
 (if isIntV u8 (bys l)[0 + (opq rdX l a).toNat * 1]? = true then
 (if (List.take 18 (putCells dipZ 0 (opq rdC l a))).length = 18 ∧ 18 ≤ 19 then
 (if [int i64 (i64.wrap (intV (bys l)[0 + (opq rdX l a).toNat * 1]?))].length = 1 ∧ 19 ≤ (putCells m19Z 0 (List.take 18 (putCells dipZ 0 (opq rdC l a)))).length then
 (if (putCells (putCells m19Z 0 (List.take 18 (putCells dipZ 0 (opq rdC l a)))) 18 [int i64 (i64.wrap (intV (bys l)[0 + (opq rdX l a).toNat * 1]?))]).length = 19 ∧ 19 ≤ 19 then
 (if 19 ≤ (putCells m19Z 0 (putCells (putCells m19Z 0 (List.take 18 (putCells dipZ 0 (opq rdC l a)))) 18 [int i64 (i64.wrap (intV (bys l)[0 + (opq rdX l a).toNat * 1]?))])).length then
 (if (2 * (m + 1) + 200) * 32 ≤ 281474976710656 ∧ some 19 = some 19 ∧ m + 1 ≤ 70368744177664 then
 (if 0 + m * 19 ≤ C.length then
 (if 0 = 0 ∧ 0 + m * 19 = C.length ∧ (0 < 1 ∨ 0 = 0) ∧ 19 = 19 ∧ (List.take 19 (putCells m19Z 0 (putCells (putCells m19Z 0 (List.take 18 (putCells dipZ 0 (opq rdC l a)))) 18 [int i64 (i64.wrap (intV (bys l)[0 + (opq rdX l a).toNat * 1]?))]))).all AV.isCell = true then
 some ((AEx.norm, [AV.sl (some (0, 0)) l.length 0 false, AV.ptr (some (1, 0)), AV.bool false, int i64 (i64.wrap (opq rdX l a + 1)), AV.ptr (some (3, 0)), int i64 n, int i64 (i64.wrap (i + 1))], (hRcrR1 l k pr w x po C m a n i)))
 else none) else none) else none) else none) else none) else none) else none) else none) else none) else none) else none))
 else none) else none) else none) else none) := by
  kernel_rfl

noncomputable def hRcrB0 (l : List UInt8) (k pr : Int) (w : Bool) (x : Nat → Int) (po : Int) (C : List AV) (m : Nat) (a n i : Int) : AHeap := [cells (bys l) 1 Md.far none, ABlk.cells zCm 21 Md.own none, ABlk.dead, cells [int i64 k, b8 pr, AV.bool w, b8 (x 0), b8 (x 1), b8 (x 2), b8 (x 3), b8 (x 4), b8 (x 5), b8 (x 6), b8 (x 7), b8 (x 8), b8 (x 9), b8 (x 10), b8 (x 11), b8 (x 12), b8 (x 13), b8 (x 14), b8 (x 15), int u16 po, AV.sl (some (4, 0)) m 0 false] 21 Md.own none, ABlk.cells C 19 Md.own none]
noncomputable def hRcrB1 (l : List UInt8) (k pr : Int) (w : Bool) (x : Nat → Int) (po : Int) (C : List AV) (m : Nat) (a n i : Int) : AHeap := [cells (bys l) 1 Md.far none, cells [int i64 0, b8 0, AV.bool false, b8 0, b8 0, b8 0, b8 0, b8 0, b8 0, b8 0, b8 0, b8 0, b8 0, b8 0, b8 0, b8 0, b8 0, b8 0, b8 0, int u16 0, AV.sl none 0 0 true] 21 Md.own none, ABlk.dead, cells [int i64 k, b8 pr, AV.bool w, b8 (x 0), b8 (x 1), b8 (x 2), b8 (x 3), b8 (x 4), b8 (x 5), b8 (x 6), b8 (x 7), b8 (x 8), b8 (x 9), b8 (x 10), b8 (x 11), b8 (x 12), b8 (x 13), b8 (x 14), b8 (x 15), int u16 po, AV.sl (some (4, 0)) m 0 false] 21 Md.own none, ABlk.cells C 19 Md.own none, cells (putCells dipZ 0 (opq rdC l a)) 18 Md.own none]
theorem nfRcrB (l : List UInt8) (k pr : Int) (w : Bool) (x : Nat → Int) (po : Int) (C : List AV) (m : Nat) (a n i : Int) :
 qround Try.prog (tRl l) 100 4 [(73, .bool true), (90, .bool true)] noT RCL mRc (vRc l a n i) (hRc l k pr w x po C m) =
 (if decide (i < n) = true then
 (if cdec ((bOk (hRcrB0 l k pr w x po C m a n i) (AV.sl (some (0, 0)) l.length 0 false) = true ∧ bOf (hRcrB0 l k pr w x po C m a n i) (AV.sl (some (0, 0)) l.length 0 false) = l) ∧ nOf (AV.sl (some (0, 0)) l.length 0 false) ≤ 1000000000000 ∧ 0 ≤ a ∧ a ≤ 1000000000000) = true then
 (if (opq rdC l a).length = 18 then
 (if 0 + (opq rdC l a).length ≤ 18 ∧ (opq rdC l a).all AV.isCell = true then
 (if (!opq rdB l a) = true then
 some ((AEx.ret, [AV.sl (some (0, 0)) l.length 0 false, AV.ptr (some (1, 0)), AV.bool false, int i64 a, AV.ptr (some (3, 0)), int i64 n, int i64 i], (hRcrB1 l k pr w x po C m a n i)))
 else (if decide (opq rdX l a ≥ (l.length : Int)) = true then
 some ((AEx.ret, [AV.sl (some (0, 0)) l.length 0 false, AV.ptr (some (1, 0)), AV.bool false, int i64 a, AV.ptr (some (3, 0)), int i64 n, int i64 i], (hRcrB1 l k pr w x po C m a n i)))
 else none))
 else none) else none) else none) else none) := by
  kernel_rfl

noncomputable def hRcrS0 (l : List UInt8) (k pr : Int) (w : Bool) (x : Nat → Int) (po : Int) (C : List AV) (m : Nat) (a n i : Int) : AHeap := [cells (bys l) 1 Md.far none, ABlk.cells zCm 21 Md.own none, ABlk.dead, cells [int i64 k, b8 pr, AV.bool w, b8 (x 0), b8 (x 1), b8 (x 2), b8 (x 3), b8 (x 4), b8 (x 5), b8 (x 6), b8 (x 7), b8 (x 8), b8 (x 9), b8 (x 10), b8 (x 11), b8 (x 12), b8 (x 13), b8 (x 14), b8 (x 15), int u16 po, AV.sl (some (4, 0)) m 0 false] 21 Md.own none, ABlk.cells C 19 Md.own none]
theorem nfRcrS (l : List UInt8) (k pr : Int) (w : Bool) (x : Nat → Int) (po : Int) (C : List AV) (m : Nat) (a n i : Int) :
 qround Try.prog (tRl l) 100 4 [(73, .bool false)] noT RCL mRc (vRc l a n i) (hRc l k pr w x po C m) =
 (if decide (i < n) = false then
 some ((AEx.exit 0, [AV.sl (some (0, 0)) l.length 0 false, AV.ptr (some (1, 0)), AV.bool false, int i64 a, AV.ptr (some (3, 0)), int i64 n, int i64 i], (hRcrS0 l k pr w x po C m a n i)))
 else none) := by
  kernel_rfl


end Go.Proofs.Ytjlepcfeeicdfaa.L
