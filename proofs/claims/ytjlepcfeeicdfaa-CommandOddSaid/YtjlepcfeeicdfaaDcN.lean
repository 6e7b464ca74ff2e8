/- command.Decode: rows. -/
import Derived.Test.YtjlepcfeeicdfaaErK
import Derived.Test.YtjlepcfeeicdfaaEq24
set_option autoImplicit false
set_option maxRecDepth 100000
set_option linter.unusedVariables false
set_option linter.unusedSimpArgs false
namespace Go.Proofs.Ytjlepcfeeicdfaa.L
open Go Go.Abs
open Go.IntKind (u8 u16 u32 u64 i64)
open Go.Abs.AV (int)
open Go.Abs.ABlk (cells)

def lastB (l : List UInt8) (n : Nat) : List UInt8 := l.drop (l.length - n)
def frCn (l : List UInt8) (n : Nat) : List AV := if frOk (lastB l n) then frA (lastB l n) else adZ
def frPn (l : List UInt8) (n : Nat) : Int := if frOk (lastB l n) then word (lastB l n) (frN (lastB l n) - 2) else 0
def frNn (l : List UInt8) (n : Nat) : Int := if frOk (lastB l n) then frN (lastB l n) else 0
noncomputable def eFrL (l : List UInt8) : GEnt := fun args h => match args with
  | [b] => some (cdec ((bOk h b = true ∧ bOf h b = lastB l (nOf b)) ∧ nOf b ≤ 1000000000000), .tup [.agg (opq frCn l (nOf b)), .int .u16 (opq frPn l (nOf b)), .int .i64 (opq frNn l (nOf b))], h)
  | _ => none
noncomputable def tDl (l : List UInt8) : Tbl := [(22, entF (eFrL l))]
noncomputable def fA (l : List UInt8) (i : Int) : List AV := opq frCn l (Nat.sub l.length i.toNat)
noncomputable def fP (l : List UInt8) (i : Int) : Int := opq frPn l (Nat.sub l.length i.toNat)
noncomputable def fN (l : List UInt8) (i : Int) : Int := opq frNn l (Nat.sub l.length i.toNat)
noncomputable def fW (l : List UInt8) (i : Int) : Int := i64.wrap (intV ((bys l)[0 + (i64.wrap (i + fN l i)).toNat * 1]?))
def m19Z : List AV := [AV.bool false, AV.int .u8 0, AV.int .u8 0, AV.int .u8 0, AV.int .u8 0, AV.int .u8 0, AV.int .u8 0, AV.int .u8 0, AV.int .u8 0, AV.int .u8 0, AV.int .u8 0, AV.int .u8 0, AV.int .u8 0, AV.int .u8 0, AV.int .u8 0, AV.int .u8 0, AV.int .u8 0, AV.int .u16 0, AV.int .i64 0]
def dm18 (A : List AV) (p : Int) : List AV := putCells (putCells dipZ 0 (List.take 17 (putCells adZ 0 A))) 17 [AV.int .u16 p]
def dm19 (A : List AV) (p w : Int) : List AV := putCells (putCells m19Z 0 (dm18 A p)) 18 [AV.int .i64 w]
noncomputable abbrev DCL := loopIn (bodyOf Try.prog 8) 0
def mDc : List Bool := [true, false, true, false, false, false, false, true] ++ List.replicate 90 false
def vDc (l : List UInt8) (i : Int) : List AV := [slB 0 l, .ptr (some (1, 0)), .int .i64 i]
def hDc (l : List UInt8) (k pr : Int) (w : Bool) (x : Nat → Int) (po : Int) (C : List AV) (n : Nat) : AHeap := [farB l, .cells (cmA k pr w x po (.sl (some (3, 0)) n 0 false)) 21 .own none, .dead, .cells C 19 .own none]
noncomputable def tDc (v : AV) (Z : List UInt8) (e : Int) (q : Bool) : Tbl := [(22, entF (eSay eFro [(2, v, [])])), (10, entF (eRel EnR [(4, .tup [slB 4 Z, .int .i64 e], [ownB Z])])), (23, entF (eSay eEqual [(5, .bool q, [])]))]
theorem tDcOk (v : AV) (Z : List UInt8) (e : Int) (q : Bool) : ∀ f E, (tDc v Z e q).find f = some E → SoundE Try.prog f E := find_cons (sSay sFro _) (find_cons (sEn _) (find_cons (sSay sEqual _) (find_nil _)))
noncomputable def hDcX0 (l : List UInt8) : AHeap := [cells (bys l) 1 Md.far none, cells [int i64 0, b8 0, AV.bool false, b8 0, b8 0, b8 0, b8 0, b8 0, b8 0, b8 0, b8 0, b8 0, b8 0, b8 0, b8 0, b8 0, b8 0, b8 0, b8 0, int u16 0, AV.sl none 0 0 true] 21 Md.own none]
theorem nfDcX {R : Type} (l : List UInt8) (K : AV → AHeap → Option R) :
 qrun Try.prog (tDc (.bool true) [] 0 true) 100 4 [(15, .bool true)] [] 8 [slB 0 l] [farB l] K =
 (if decide ((l.length : Int) < 2) = true then
 K (AV.tup [AV.agg [int i64 0, b8 0, AV.bool false, b8 0, b8 0, b8 0, b8 0, b8 0, b8 0, b8 0, b8 0, b8 0, b8 0, b8 0, b8 0, b8 0, b8 0, b8 0, b8 0, int u16 0, AV.sl none 0 0 true], int i64 2]) ((hDcX0 l))
 else none) := by
  kernel_rfl

noncomputable def hDcE0 (l : List UInt8) (w : Bool) (x : Nat → Int) (po nn : Int) (Z : List UInt8) (q : Prop) (vs0 : List AV) (h0 : AHeap) (k pr : Int) (C : List AV) (n : Nat) (i : Int) : AHeap := [cells (bys l) 1 Md.far none, cells [int i64 (i64.wrap (intV (bys l)[0]?)), b8 (intV (bys l)[1]?), AV.bool false, b8 0, b8 0, b8 0, b8 0, b8 0, b8 0, b8 0, b8 0, b8 0, b8 0, b8 0, b8 0, b8 0, b8 0, b8 0, b8 0, int u16 0, AV.sl none 0 0 true] 21 Md.own none]
noncomputable def hDcE1 (l : List UInt8) (w : Bool) (x : Nat → Int) (po nn : Int) (Z : List UInt8) (q : Prop) (vs0 : List AV) (h0 : AHeap) (k pr : Int) (C : List AV) (n : Nat) (i : Int) : AHeap := []
noncomputable def hDcE2 (l : List UInt8) (w : Bool) (x : Nat → Int) (po nn : Int) (Z : List UInt8) (q : Prop) (vs0 : List AV) (h0 : AHeap) (k pr : Int) (C : List AV) (n : Nat) (i : Int) : AHeap := [cells (bys l) 1 Md.far none, cells [int i64 (i64.wrap (intV (bys l)[0]?)), b8 (intV (bys l)[1]?), AV.bool w, b8 (x 0), b8 (x 1), b8 (x 2), b8 (x 3), b8 (x 4), b8 (x 5), b8 (x 6), b8 (x 7), b8 (x 8), b8 (x 9), b8 (x 10), b8 (x 11), b8 (x 12), b8 (x 13), b8 (x 14), b8 (x 15), int u16 po, AV.sl none 0 0 true] 21 Md.own none, cells (adF w x) 17 Md.own none]
noncomputable def hDcE3 (l : List UInt8) (w : Bool) (x : Nat → Int) (po nn : Int) (Z : List UInt8) (q : Prop) (vs0 : List AV) (h0 : AHeap) (k pr : Int) (C : List AV) (n : Nat) (i : Int) : AHeap := [cells (bys l) 1 Md.far none, cells [int i64 k, b8 pr, AV.bool w, b8 (x 0), b8 (x 1), b8 (x 2), b8 (x 3), b8 (x 4), b8 (x 5), b8 (x 6), b8 (x 7), b8 (x 8), b8 (x 9), b8 (x 10), b8 (x 11), b8 (x 12), b8 (x 13), b8 (x 14), b8 (x 15), int u16 po, AV.sl (some (3, 0)) n 0 false] 21 Md.own none, ABlk.dead, ABlk.cells C 19 Md.own none]
noncomputable def hDcE4 (l : List UInt8) (w : Bool) (x : Nat → Int) (po nn : Int) (Z : List UInt8) (q : Prop) (vs0 : List AV) (h0 : AHeap) (k pr : Int) (C : List AV) (n : Nat) (i : Int) : AHeap := [cells (bys Z) 1 Md.own none]
noncomputable def hDcE5 (l : List UInt8) (w : Bool) (x : Nat → Int) (po nn : Int) (Z : List UInt8) (q : Prop) (vs0 : List AV) (h0 : AHeap) (k pr : Int) (C : List AV) (n : Nat) (i : Int) : AHeap := [cells (bys l) 1 Md.far none, cells [int i64 0, b8 0, AV.bool false, b8 0, b8 0, b8 0, b8 0, b8 0, b8 0, b8 0, b8 0, b8 0, b8 0, b8 0, b8 0, b8 0, b8 0, b8 0, b8 0, int u16 0, AV.sl none 0 0 true] 21 Md.own none, ABlk.dead, ABlk.cells C 19 Md.own none, cells (bys Z) 1 Md.own none]
theorem nfDcE {R : Type} (l : List UInt8) (w : Bool) (x : Nat → Int) (po nn : Int) (Z : List UInt8) (q : Prop) (vs0 : List AV) (h0 : AHeap) (k pr : Int) (C : List AV) (n : Nat) (i : Int) (K : AV → AHeap → Option R) :
 qrun Try.prog (tDc (.tup [.agg (adF w x), .int .u16 po, .int .i64 nn]) Z 2 false) 100 4 [(15, .bool false), (95, .bool true)] [(8, fixC q mDc vs0 h0 (.exit 0) (vDc l i) (hDc l k pr w x po C n))] 8 [slB 0 l] [farB l] K =
 (if decide ((l.length : Int) < 2) = false then
 (if Int.ofNat 0 ≤ Int.ofNat 0 ∧ 0 < (l.length : Int) then
 (if isIntV u8 (bys l)[0]? = true then
 (if Int.ofNat 0 ≤ Int.ofNat 1 ∧ 1 < (l.length : Int) then
 (if isIntV u8 (bys l)[1]? = true then
 (if isIntV u8 (bys l)[1]? = true then
 (if (b8 (intV (bys l)[1]?)).beq (b8 (intV (bys l)[1]?)) = true then
 (if Int.ofNat 0 ≤ Int.ofNat 2 ∧ 2 ≤ (l.length : Int) then
 (if cdec (Says eFro [AV.sl (some (0, 2)) (l.length - 2) (roomOf l.length 0 2 true l.length false) false] (hDcE0 l w x po nn Z q vs0 h0 k pr C n i) (AV.tup [AV.agg (adF w x), int u16 po, int i64 nn]) (hDcE1 l w x po nn Z q vs0 h0 k pr C n i)) = true then
 (if cdec (q ∧ [AV.sl (some (0, 0)) l.length 0 false, AV.ptr (some (1, 0)), int i64 (i64.wrap (i64.wrap (2 + nn) + 1))] = vs0 ∧ (hDcE2 l w x po nn Z q vs0 h0 k pr C n i) = h0) = true then
 (if cdec (EnR [AV.agg [int i64 k, b8 pr, AV.bool w, b8 (x 0), b8 (x 1), b8 (x 2), b8 (x 3), b8 (x 4), b8 (x 5), b8 (x 6), b8 (x 7), b8 (x 8), b8 (x 9), b8 (x 10), b8 (x 11), b8 (x 12), b8 (x 13), b8 (x 14), b8 (x 15), int u16 po, AV.sl (some (3, 0)) n 0 false]] (hDcE3 l w x po nn Z q vs0 h0 k pr C n i) (AV.tup [AV.sl (some (4, 0)) Z.length 0 false, int i64 2]) (hDcE4 l w x po nn Z q vs0 h0 k pr C n i)) = true then
 K (AV.tup [AV.agg [int i64 0, b8 0, AV.bool false, b8 0, b8 0, b8 0, b8 0, b8 0, b8 0, b8 0, b8 0, b8 0, b8 0, b8 0, b8 0, b8 0, b8 0, b8 0, b8 0, int u16 0, AV.sl none 0 0 true], int i64 2]) ((hDcE5 l w x po nn Z q vs0 h0 k pr C n i))
 else none) else none) else none) else none) else none) else none) else none) else none) else none) else none) else none) := by
  kernel_rfl

noncomputable def hDcF0 (l : List UInt8) (w : Bool) (x : Nat → Int) (po nn : Int) (Z : List UInt8) (q : Prop) (vs0 : List AV) (h0 : AHeap) (k pr : Int) (C : List AV) (n : Nat) (i : Int) : AHeap := [cells (bys l) 1 Md.far none, cells [int i64 (i64.wrap (intV (bys l)[0]?)), b8 (intV (bys l)[1]?), AV.bool false, b8 0, b8 0, b8 0, b8 0, b8 0, b8 0, b8 0, b8 0, b8 0, b8 0, b8 0, b8 0, b8 0, b8 0, b8 0, b8 0, int u16 0, AV.sl none 0 0 true] 21 Md.own none]
noncomputable def hDcF1 (l : List UInt8) (w : Bool) (x : Nat → Int) (po nn : Int) (Z : List UInt8) (q : Prop) (vs0 : List AV) (h0 : AHeap) (k pr : Int) (C : List AV) (n : Nat) (i : Int) : AHeap := []
noncomputable def hDcF2 (l : List UInt8) (w : Bool) (x : Nat → Int) (po nn : Int) (Z : List UInt8) (q : Prop) (vs0 : List AV) (h0 : AHeap) (k pr : Int) (C : List AV) (n : Nat) (i : Int) : AHeap := [cells (bys l) 1 Md.far none, cells [int i64 (i64.wrap (intV (bys l)[0]?)), b8 (intV (bys l)[1]?), AV.bool w, b8 (x 0), b8 (x 1), b8 (x 2), b8 (x 3), b8 (x 4), b8 (x 5), b8 (x 6), b8 (x 7), b8 (x 8), b8 (x 9), b8 (x 10), b8 (x 11), b8 (x 12), b8 (x 13), b8 (x 14), b8 (x 15), int u16 po, AV.sl none 0 0 true] 21 Md.own none, cells (adF w x) 17 Md.own none]
noncomputable def hDcF3 (l : List UInt8) (w : Bool) (x : Nat → Int) (po nn : Int) (Z : List UInt8) (q : Prop) (vs0 : List AV) (h0 : AHeap) (k pr : Int) (C : List AV) (n : Nat) (i : Int) : AHeap := [cells (bys l) 1 Md.far none, cells [int i64 k, b8 pr, AV.bool w, b8 (x 0), b8 (x 1), b8 (x 2), b8 (x 3), b8 (x 4), b8 (x 5), b8 (x 6), b8 (x 7), b8 (x 8), b8 (x 9), b8 (x 10), b8 (x 11), b8 (x 12), b8 (x 13), b8 (x 14), b8 (x 15), int u16 po, AV.sl (some (3, 0)) n 0 false] 21 Md.own none, ABlk.dead, ABlk.cells C 19 Md.own none]
noncomputable def hDcF4 (l : List UInt8) (w : Bool) (x : Nat → Int) (po nn : Int) (Z : List UInt8) (q : Prop) (vs0 : List AV) (h0 : AHeap) (k pr : Int) (C : List AV) (n : Nat) (i : Int) : AHeap := [cells (bys Z) 1 Md.own none]
noncomputable def hDcF5 (l : List UInt8) (w : Bool) (x : Nat → Int) (po nn : Int) (Z : List UInt8) (q : Prop) (vs0 : List AV) (h0 : AHeap) (k pr : Int) (C : List AV) (n : Nat) (i : Int) : AHeap := [cells (bys l) 1 Md.far none, cells [int i64 k, b8 pr, AV.bool w, b8 (x 0), b8 (x 1), b8 (x 2), b8 (x 3), b8 (x 4), b8 (x 5), b8 (x 6), b8 (x 7), b8 (x 8), b8 (x 9), b8 (x 10), b8 (x 11), b8 (x 12), b8 (x 13), b8 (x 14), b8 (x 15), int u16 po, AV.sl (some (3, 0)) n 0 false] 21 Md.own none, ABlk.dead, ABlk.cells C 19 Md.own none, cells (bys Z) 1 Md.own none]
noncomputable def hDcF6 (l : List UInt8) (w : Bool) (x : Nat → Int) (po nn : Int) (Z : List UInt8) (q : Prop) (vs0 : List AV) (h0 : AHeap) (k pr : Int) (C : List AV) (n : Nat) (i : Int) : AHeap := [cells (bys l) 1 Md.far none, cells [int i64 0, b8 0, AV.bool false, b8 0, b8 0, b8 0, b8 0, b8 0, b8 0, b8 0, b8 0, b8 0, b8 0, b8 0, b8 0, b8 0, b8 0, b8 0, b8 0, int u16 0, AV.sl none 0 0 true] 21 Md.own none, ABlk.dead, ABlk.cells C 19 Md.own none, cells (bys Z) 1 Md.own none]
theorem nfDcF {R : Type} (l : List UInt8) (w : Bool) (x : Nat → Int) (po nn : Int) (Z : List UInt8) (q : Prop) (vs0 : List AV) (h0 : AHeap) (k pr : Int) (C : List AV) (n : Nat) (i : Int) (K : AV → AHeap → Option R) :
 qrun Try.prog (tDc (.tup [.agg (adF w x), .int .u16 po, .int .i64 nn]) Z 0 false) 100 4 [(15, .bool false), (95, .bool true)] [(8, fixC q mDc vs0 h0 (.exit 0) (vDc l i) (hDc l k pr w x po C n))] 8 [slB 0 l] [farB l] K =
 (if decide ((l.length : Int) < 2) = false then
 (if Int.ofNat 0 ≤ Int.ofNat 0 ∧ 0 < (l.length : Int) then
 (if isIntV u8 (bys l)[0]? = true then
 (if Int.ofNat 0 ≤ Int.ofNat 1 ∧ 1 < (l.length : Int) then
 (if isIntV u8 (bys l)[1]? = true then
 (if isIntV u8 (bys l)[1]? = true then
 (if (b8 (intV (bys l)[1]?)).beq (b8 (intV (bys l)[1]?)) = true then
 (if Int.ofNat 0 ≤ Int.ofNat 2 ∧ 2 ≤ (l.length : Int) then
 (if cdec (Says eFro [AV.sl (some (0, 2)) (l.length - 2) (roomOf l.length 0 2 true l.length false) false] (hDcF0 l w x po nn Z q vs0 h0 k pr C n i) (AV.tup [AV.agg (adF w x), int u16 po, int i64 nn]) (hDcF1 l w x po nn Z q vs0 h0 k pr C n i)) = true then
 (if cdec (q ∧ [AV.sl (some (0, 0)) l.length 0 false, AV.ptr (some (1, 0)), int i64 (i64.wrap (i64.wrap (2 + nn) + 1))] = vs0 ∧ (hDcF2 l w x po nn Z q vs0 h0 k pr C n i) = h0) = true then
 (if cdec (EnR [AV.agg [int i64 k, b8 pr, AV.bool w, b8 (x 0), b8 (x 1), b8 (x 2), b8 (x 3), b8 (x 4), b8 (x 5), b8 (x 6), b8 (x 7), b8 (x 8), b8 (x 9), b8 (x 10), b8 (x 11), b8 (x 12), b8 (x 13), b8 (x 14), b8 (x 15), int u16 po, AV.sl (some (3, 0)) n 0 false]] (hDcF3 l w x po nn Z q vs0 h0 k pr C n i) (AV.tup [AV.sl (some (4, 0)) Z.length 0 false, int i64 0]) (hDcF4 l w x po nn Z q vs0 h0 k pr C n i)) = true then
 (if cdec (Says eEqual [AV.sl (some (4, 0)) Z.length 0 false, AV.sl (some (0, 0)) l.length 0 false] (hDcF5 l w x po nn Z q vs0 h0 k pr C n i) (AV.bool false) (hDcF1 l w x po nn Z q vs0 h0 k pr C n i)) = true then
 K (AV.tup [AV.agg [int i64 0, b8 0, AV.bool false, b8 0, b8 0, b8 0, b8 0, b8 0, b8 0, b8 0, b8 0, b8 0, b8 0, b8 0, b8 0, b8 0, b8 0, b8 0, b8 0, int u16 0, AV.sl none 0 0 true], int i64 2]) ((hDcF6 l w x po nn Z q vs0 h0 k pr C n i))
 else none) else none) else none) else none) else none) else none) else none) else none) else none) else none) else none) else none) := by
  kernel_rfl

noncomputable def hDcG0 (l : List UInt8) (w : Bool) (x : Nat → Int) (po nn : Int) (Z : List UInt8) (q : Prop) (vs0 : List AV) (h0 : AHeap) (k pr : Int) (C : List AV) (n : Nat) (i : Int) : AHeap := [cells (bys l) 1 Md.far none, cells [int i64 (i64.wrap (intV (bys l)[0]?)), b8 (intV (bys l)[1]?), AV.bool false, b8 0, b8 0, b8 0, b8 0, b8 0, b8 0, b8 0, b8 0, b8 0, b8 0, b8 0, b8 0, b8 0, b8 0, b8 0, b8 0, int u16 0, AV.sl none 0 0 true] 21 Md.own none]
noncomputable def hDcG1 (l : List UInt8) (w : Bool) (x : Nat → Int) (po nn : Int) (Z : List UInt8) (q : Prop) (vs0 : List AV) (h0 : AHeap) (k pr : Int) (C : List AV) (n : Nat) (i : Int) : AHeap := []
noncomputable def hDcG2 (l : List UInt8) (w : Bool) (x : Nat → Int) (po nn : Int) (Z : List UInt8) (q : Prop) (vs0 : List AV) (h0 : AHeap) (k pr : Int) (C : List AV) (n : Nat) (i : Int) : AHeap := [cells (bys l) 1 Md.far none, cells [int i64 (i64.wrap (intV (bys l)[0]?)), b8 (intV (bys l)[1]?), AV.bool w, b8 (x 0), b8 (x 1), b8 (x 2), b8 (x 3), b8 (x 4), b8 (x 5), b8 (x 6), b8 (x 7), b8 (x 8), b8 (x 9), b8 (x 10), b8 (x 11), b8 (x 12), b8 (x 13), b8 (x 14), b8 (x 15), int u16 po, AV.sl none 0 0 true] 21 Md.own none, cells (adF w x) 17 Md.own none]
noncomputable def hDcG3 (l : List UInt8) (w : Bool) (x : Nat → Int) (po nn : Int) (Z : List UInt8) (q : Prop) (vs0 : List AV) (h0 : AHeap) (k pr : Int) (C : List AV) (n : Nat) (i : Int) : AHeap := [cells (bys l) 1 Md.far none, cells [int i64 k, b8 pr, AV.bool w, b8 (x 0), b8 (x 1), b8 (x 2), b8 (x 3), b8 (x 4), b8 (x 5), b8 (x 6), b8 (x 7), b8 (x 8), b8 (x 9), b8 (x 10), b8 (x 11), b8 (x 12), b8 (x 13), b8 (x 14), b8 (x 15), int u16 po, AV.sl (some (3, 0)) n 0 false] 21 Md.own none, ABlk.dead, ABlk.cells C 19 Md.own none]
noncomputable def hDcG4 (l : List UInt8) (w : Bool) (x : Nat → Int) (po nn : Int) (Z : List UInt8) (q : Prop) (vs0 : List AV) (h0 : AHeap) (k pr : Int) (C : List AV) (n : Nat) (i : Int) : AHeap := [cells (bys Z) 1 Md.own none]
noncomputable def hDcG5 (l : List UInt8) (w : Bool) (x : Nat → Int) (po nn : Int) (Z : List UInt8) (q : Prop) (vs0 : List AV) (h0 : AHeap) (k pr : Int) (C : List AV) (n : Nat) (i : Int) : AHeap := [cells (bys l) 1 Md.far none, cells [int i64 k, b8 pr, AV.bool w, b8 (x 0), b8 (x 1), b8 (x 2), b8 (x 3), b8 (x 4), b8 (x 5), b8 (x 6), b8 (x 7), b8 (x 8), b8 (x 9), b8 (x 10), b8 (x 11), b8 (x 12), b8 (x 13), b8 (x 14), b8 (x 15), int u16 po, AV.sl (some (3, 0)) n 0 false] 21 Md.own none, ABlk.dead, ABlk.cells C 19 Md.own none, cells (bys Z) 1 Md.own none]
theorem nfDcG {R : Type} (l : List UInt8) (w : Bool) (x : Nat → Int) (po nn : Int) (Z : List UInt8) (q : Prop) (vs0 : List AV) (h0 : AHeap) (k pr : Int) (C : List AV) (n : Nat) (i : Int) (K : AV → AHeap → Option R) :
 qrun Try.prog (tDc (.tup [.agg (adF w x), .int .u16 po, .int .i64 nn]) Z 0 true) 100 4 [(15, .bool false), (95, .bool false)] [(8, fixC q mDc vs0 h0 (.exit 0) (vDc l i) (hDc l k pr w x po C n))] 8 [slB 0 l] [farB l] K =
 (if decide ((l.length : Int) < 2) = false then
 (if Int.ofNat 0 ≤ Int.ofNat 0 ∧ 0 < (l.length : Int) then
 (if isIntV u8 (bys l)[0]? = true then
 (if Int.ofNat 0 ≤ Int.ofNat 1 ∧ 1 < (l.length : Int) then
 (if isIntV u8 (bys l)[1]? = true then
 (if isIntV u8 (bys l)[1]? = true then
 (if (b8 (intV (bys l)[1]?)).beq (b8 (intV (bys l)[1]?)) = true then
 (if Int.ofNat 0 ≤ Int.ofNat 2 ∧ 2 ≤ (l.length : Int) then
 (if cdec (Says eFro [AV.sl (some (0, 2)) (l.length - 2) (roomOf l.length 0 2 true l.length false) false] (hDcG0 l w x po nn Z q vs0 h0 k pr C n i) (AV.tup [AV.agg (adF w x), int u16 po, int i64 nn]) (hDcG1 l w x po nn Z q vs0 h0 k pr C n i)) = true then
 (if cdec (q ∧ [AV.sl (some (0, 0)) l.length 0 false, AV.ptr (some (1, 0)), int i64 (i64.wrap (i64.wrap (2 + nn) + 1))] = vs0 ∧ (hDcG2 l w x po nn Z q vs0 h0 k pr C n i) = h0) = true then
 (if cdec (EnR [AV.agg [int i64 k, b8 pr, AV.bool w, b8 (x 0), b8 (x 1), b8 (x 2), b8 (x 3), b8 (x 4), b8 (x 5), b8 (x 6), b8 (x 7), b8 (x 8), b8 (x 9), b8 (x 10), b8 (x 11), b8 (x 12), b8 (x 13), b8 (x 14), b8 (x 15), int u16 po, AV.sl (some (3, 0)) n 0 false]] (hDcG3 l w x po nn Z q vs0 h0 k pr C n i) (AV.tup [AV.sl (some (4, 0)) Z.length 0 false, int i64 0]) (hDcG4 l w x po nn Z q vs0 h0 k pr C n i)) = true then
 (if cdec (Says eEqual [AV.sl (some (4, 0)) Z.length 0 false, AV.sl (some (0, 0)) l.length 0 false] (hDcG5 l w x po nn Z q vs0 h0 k pr C n i) (AV.bool true) (hDcG1 l w x po nn Z q vs0 h0 k pr C n i)) = true then
 K (AV.tup [AV.agg [int i64 k, b8 pr, AV.bool w, b8 (x 0), b8 (x 1), b8 (x 2), b8 (x 3), b8 (x 4), b8 (x 5), b8 (x 6), b8 (x 7), b8 (x 8), b8 (x 9), b8 (x 10), b8 (x 11), b8 (x 12), b8 (x 13), b8 (x 14), b8 (x 15), int u16 po, AV.sl (some (3, 0)) n 0 false], int i64 0]) ((hDcG5 l w x po nn Z q vs0 h0 k pr C n i))
 else none) else none) else none) else none) else none) else none) else none) else none) else none) else none) else none) else none) := by
  kernel_rfl

noncomputable def hDcrR0 (l : List UInt8) (k pr : Int) (w : Bool) (x : Nat → Int) (po : Int) (C : List AV) (n : Nat) (i : Int) : AHeap := [cells (bys l) 1 Md.far none, cells [int i64 k, b8 pr, AV.bool w, b8 (x 0), b8 (x 1), b8 (x 2), b8 (x 3), b8 (x 4), b8 (x 5), b8 (x 6), b8 (x 7), b8 (x 8), b8 (x 9), b8 (x 10), b8 (x 11), b8 (x 12), b8 (x 13), b8 (x 14), b8 (x 15), int u16 po, AV.sl (some (3, 0)) n 0 false] 21 Md.own none, ABlk.dead, ABlk.cells C 19 Md.own none]
noncomputable def hDcrR1 (l : List UInt8) (k pr : Int) (w : Bool) (x : Nat → Int) (po : Int) (C : List AV) (n : Nat) (i : Int) : AHeap := [cells (bys l) 1 Md.far none, cells [int i64 k, b8 pr, AV.bool w, b8 (x 0), b8 (x 1), b8 (x 2), b8 (x 3), b8 (x 4), b8 (x 5), b8 (x 6), b8 (x 7), b8 (x 8), b8 (x 9), b8 (x 10), b8 (x 11), b8 (x 12), b8 (x 13), b8 (x 14), b8 (x 15), int u16 po, AV.sl (some (6, 0)) (n + 1) 0 false] 21 Md.own none, ABlk.dead, ABlk.cells C 19 Md.ro none, cells (putCells adZ 0 (fA l i)) 17 Md.own none, cells (putCells m19Z 0 (dm19 (fA l i) (fP l i) (fW l i))) 19 Md.own none, cells (List.take (n * 19) C ++ List.take 19 (putCells m19Z 0 (dm19 (fA l i) (fP l i) (fW l i)))) 19 Md.own (some 3)]
theorem nfDcrR (l : List UInt8) (k pr : Int) (w : Bool) (x : Nat → Int) (po : Int) (C : List AV) (n : Nat) (i : Int) :
 qround Try.prog (tDl l) 100 4 [(47, .bool true), (68, .bool false)] noT DCL mDc (vDc l i) (hDc l k pr w x po C n) =
 (if decide (i < (l.length : Int)) = true then
 (if 0 ≤ i ∧ i ≤ (l.length : Int) then
 (if cdec ((bOk (hDcrR0 l k pr w x po C n i) (AV.sl (some (0, 0 + i.toNat * 1)) (l.length - i.toNat) (roomOf l.length 0 i.toNat true l.length false) false) = true ∧ bOf (hDcrR0 l k pr w x po C n i) (AV.sl (some (0, 0 + i.toNat * 1)) (l.length - i.toNat) (roomOf l.length 0 i.toNat true l.length false) false) = lastB l (l.length - i.toNat)) ∧ nOf (AV.sl (some (0, 0 + i.toNat * 1)) (l.length - i.toNat) (roomOf l.length 0 i.toNat true l.length false) false) ≤ 1000000000000) = true then
 (if (fA l i).length = 17 then
 (if 0 + (fA l i).length ≤ 17 ∧ (fA l i).all AV.isCell = true then
 (if (fN l i == 0) = true then
 none
 else (if decide (i64.wrap (i + fN l i) ≥ (l.length : Int)) = false then
 (if 17 ≤ (putCells adZ 0 (fA l i)).length then
 (if (List.take 17 (putCells adZ 0 (fA l i))).length = 17 ∧ 17 ≤ 18 then
 (if [int u16 (fP l i)].length = 1 ∧ 18 ≤ (putCells dipZ 0 (List.take 17 (putCells adZ 0 (fA l i)))).length then
 (if 0 ≤ i64.wrap (i + fN l i) ∧ i64.wrap (i + fN l i) < (l.length : Int) then
 (if isIntV u8 (bys l)[0 + (i64.wrap (i + fN l i)).toNat * 1]? = true then
 (if (dm18 (fA l i) (fP l i)).length = 18 ∧ 18 ≤ 19 then
 (if [int i64 (fW l i)].length = 1 ∧ 19 ≤ (putCells m19Z 0 (dm18 (fA l i) (fP l i))).length then
 (if (dm19 (fA l i) (fP l i) (fW l i)).length = 19 ∧ 19 ≤ 19 then
 (if 19 ≤ (putCells m19Z 0 (dm19 (fA l i) (fP l i) (fW l i))).length then
 (if (2 * (n + 1) + 200) * 32 ≤ 281474976710656 ∧ some 19 = some 19 ∧ n + 1 ≤ 70368744177664 then
 (if 0 + n * 19 ≤ C.length then
 (if 0 = 0 ∧ 0 + n * 19 = C.length ∧ (0 < 1 ∨ 0 = 0) ∧ 19 = 19 ∧ (List.take 19 (putCells m19Z 0 (dm19 (fA l i) (fP l i) (fW l i)))).all AV.isCell = true then
 some ((AEx.norm, [AV.sl (some (0, 0)) l.length 0 false, AV.ptr (some (1, 0)), int i64 (i64.wrap (i64.wrap (i + fN l i) + 1))], (hDcrR1 l k pr w x po C n i)))
 else none) else none) else none) else none) else none) else none) else none) else none) else none) else none) else none) else none) else none))
 else none) else none) else none) else none) else none) := by
  kernel_rfl

noncomputable def hDcrB0 (l : List UInt8) (k pr : Int) (w : Bool) (x : Nat → Int) (po : Int) (C : List AV) (n : Nat) (i : Int) : AHeap := [cells (bys l) 1 Md.far none, cells [int i64 k, b8 pr, AV.bool w, b8 (x 0), b8 (x 1), b8 (x 2), b8 (x 3), b8 (x 4), b8 (x 5), b8 (x 6), b8 (x 7), b8 (x 8), b8 (x 9), b8 (x 10), b8 (x 11), b8 (x 12), b8 (x 13), b8 (x 14), b8 (x 15), int u16 po, AV.sl (some (3, 0)) n 0 false] 21 Md.own none, ABlk.dead, ABlk.cells C 19 Md.own none]
noncomputable def hDcrB1 (l : List UInt8) (k pr : Int) (w : Bool) (x : Nat → Int) (po : Int) (C : List AV) (n : Nat) (i : Int) : AHeap := [cells (bys l) 1 Md.far none, cells [int i64 k, b8 pr, AV.bool w, b8 (x 0), b8 (x 1), b8 (x 2), b8 (x 3), b8 (x 4), b8 (x 5), b8 (x 6), b8 (x 7), b8 (x 8), b8 (x 9), b8 (x 10), b8 (x 11), b8 (x 12), b8 (x 13), b8 (x 14), b8 (x 15), int u16 po, AV.sl (some (3, 0)) n 0 false] 21 Md.own none, ABlk.dead, ABlk.cells C 19 Md.own none, cells (putCells adZ 0 (fA l i)) 17 Md.own none]
theorem nfDcrB (l : List UInt8) (k pr : Int) (w : Bool) (x : Nat → Int) (po : Int) (C : List AV) (n : Nat) (i : Int) :
 qround Try.prog (tDl l) 100 4 [(47, .bool true), (68, .bool true)] noT DCL mDc (vDc l i) (hDc l k pr w x po C n) =
 (if decide (i < (l.length : Int)) = true then
 (if 0 ≤ i ∧ i ≤ (l.length : Int) then
 (if cdec ((bOk (hDcrB0 l k pr w x po C n i) (AV.sl (some (0, 0 + i.toNat * 1)) (l.length - i.toNat) (roomOf l.length 0 i.toNat true l.length false) false) = true ∧ bOf (hDcrB0 l k pr w x po C n i) (AV.sl (some (0, 0 + i.toNat * 1)) (l.length - i.toNat) (roomOf l.length 0 i.toNat true l.length false) false) = lastB l (l.length - i.toNat)) ∧ nOf (AV.sl (some (0, 0 + i.toNat * 1)) (l.length - i.toNat) (roomOf l.length 0 i.toNat true l.length false) false) ≤ 1000000000000) = true then
 (if (fA l i).length = 17 then
 (if 0 + (fA l i).length ≤ 17 ∧ (fA l i).all AV.isCell = true then
 (if (fN l i == 0) = true then
 some ((AEx.exit 0, [AV.sl (some (0, 0)) l.length 0 false, AV.ptr (some (1, 0)), int i64 (i64.wrap (i + fN l i))], (hDcrB1 l k pr w x po C n i)))
 else (if decide (i64.wrap (i + fN l i) ≥ (l.length : Int)) = true then
 some ((AEx.exit 0, [AV.sl (some (0, 0)) l.length 0 false, AV.ptr (some (1, 0)), int i64 (i64.wrap (i + fN l i))], (hDcrB1 l k pr w x po C n i)))
 else none))
 else none) else none) else none) else none) else none) := by
  kernel_rfl

noncomputable def hDcrS0 (l : List UInt8) (k pr : Int) (w : Bool) (x : Nat → Int) (po : Int) (C : List AV) (n : Nat) (i : Int) : AHeap := [cells (bys l) 1 Md.far none, cells [int i64 k, b8 pr, AV.bool w, b8 (x 0), b8 (x 1), b8 (x 2), b8 (x 3), b8 (x 4), b8 (x 5), b8 (x 6), b8 (x 7), b8 (x 8), b8 (x 9), b8 (x 10), b8 (x 11), b8 (x 12), b8 (x 13), b8 (x 14), b8 (x 15), int u16 po, AV.sl (some (3, 0)) n 0 false] 21 Md.own none, ABlk.dead, ABlk.cells C 19 Md.own none]
theorem nfDcrS (l : List UInt8) (k pr : Int) (w : Bool) (x : Nat → Int) (po : Int) (C : List AV) (n : Nat) (i : Int) :
 qround Try.prog (tDl l) 100 4 [(47, .bool false)] noT DCL mDc (vDc l i) (hDc l k pr w x po C n) =
 (if decide (i < (l.length : Int)) = false then
 some ((AEx.exit 0, [AV.sl (some (0, 0)) l.length 0 false, AV.ptr (some (1, 0)), int i64 i], (hDcrS0 l k pr w x po C n i)))
 else none) := by
  kernel_rfl


end Go.Proofs.Ytjlepcfeeicdfaa.L
