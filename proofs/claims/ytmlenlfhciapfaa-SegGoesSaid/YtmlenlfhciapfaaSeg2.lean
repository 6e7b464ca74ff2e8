/- seg's Port, and the reference's. -/
import Derived.Test.YtmlenlfhciapfaaOctB
set_option autoImplicit false
set_option maxRecDepth 100000
set_option linter.unusedVariables false
set_option linter.unusedSimpArgs false
namespace Go.Proofs.Ytmlenlfhciapfaa.L
open Go Go.Abs
open Go.IntKind
open Go.Abs.AV (int)
open Go.Abs.ABlk (cells)

/-- What is told of seg.Port's calls: the header (or why not), the row, its checksum, its change. -/
noncomputable def tPort (l l1 l2 A B : List UInt8) (v : AV) (s u c : Int) : Tbl := [(10, entF (eSay eSegR [(3, v, [])])), (24, entF (eSay eClone [(4, slB 4 l, [ownB l])])),
  (25, entF (eSayH ePut16 [(5, .bool true, [(4, ownB l1)], []), (7, .bool true, [(4, ownB l2)], [])])), (22, entF (eSay eW16 [(5, .tup [.int .u16 s, .bool true], [])])),
  (27, entF (eSay eUpdate [(5, .int .u16 u, [])])), (29, entF (eSay eBytes [(5, slB 5 A, [ownB A]), (6, slB 6 B, [ownB B])])), (28, entF (eSay eChange [(7, .int .u16 c, [])]))]
theorem tPortOk (l l1 l2 A B : List UInt8) (v : AV) (s u c : Int) : ∀ f E, (tPort l l1 l2 A B v s u c).find f = some E → SoundE Try.prog f E := find_cons (sSay sSegR _) (find_cons (sSay sClone _) (find_cons (sSayH sPut16 _) (find_cons (sSay sW16 _) (find_cons (sSay sUpdate _) (find_cons (sSay sABytes _) (find_cons (sSay sChange _) (find_nil _)))))))
def hd7 (s d f : Int) : AV := .tup [.agg [.int .u16 s, .int .u16 d, .int .u8 f], .int .i64 0]
def hd7N (r : Int) : AV := .tup [.agg [.int .u16 0, .int .u16 0, .int .u8 0], .int .i64 r]
noncomputable def hPortA0 (l l1 l2 A B X Y : List UInt8) (v w : Bool) (to e s d f u c : Int) : AHeap := [cells (bys l) 1 Md.far none, cells (AV.bool v :: bys X) 17 Md.own none, cells (AV.bool w :: bys Y) 17 Md.own none]
noncomputable def hPortA1 (l l1 l2 A B X Y : List UInt8) (v w : Bool) (to e s d f u c : Int) : AHeap := []
noncomputable def hPortA2 (l l1 l2 A B X Y : List UInt8) (v w : Bool) (to e s d f u c : Int) : AHeap := [cells (bys l) 1 Md.far none, cells (AV.bool v :: bys X) 17 Md.own none, cells (AV.bool w :: bys Y) 17 Md.own none, cells [int u16 e, int u16 d, int u8 f] 3 Md.own none]
noncomputable def hPortA3 (l l1 l2 A B X Y : List UInt8) (v w : Bool) (to e s d f u c : Int) : AHeap := [cells (bys l) 1 Md.own none]
noncomputable def hPortA4 (l l1 l2 A B X Y : List UInt8) (v w : Bool) (to e s d f u c : Int) : AHeap := [cells (bys l) 1 Md.far none, cells (AV.bool v :: bys X) 17 Md.own none, cells (AV.bool w :: bys Y) 17 Md.own none, cells [int u16 e, int u16 d, int u8 f] 3 Md.own none, cells (bys l) 1 Md.own none]
noncomputable def hPortA5 (l l1 l2 A B X Y : List UInt8) (v w : Bool) (to e s d f u c : Int) : AHeap := [cells (bys l) 1 Md.far none, cells (AV.bool v :: bys X) 17 Md.own none, cells (AV.bool w :: bys Y) 17 Md.own none, cells [int u16 e, int u16 d, int u8 f] 3 Md.own none, cells (bys l1) 1 Md.own none]
noncomputable def hPortA6 (l l1 l2 A B X Y : List UInt8) (v w : Bool) (to e s d f u c : Int) : AHeap := [cells (bys A) 1 Md.own none]
noncomputable def hPortA7 (l l1 l2 A B X Y : List UInt8) (v w : Bool) (to e s d f u c : Int) : AHeap := [cells (bys l) 1 Md.far none, cells (AV.bool v :: bys X) 17 Md.own none, cells (AV.bool w :: bys Y) 17 Md.own none, cells [int u16 e, int u16 d, int u8 f] 3 Md.own none, cells (bys l1) 1 Md.own none, cells (bys A) 1 Md.own none]
noncomputable def hPortA8 (l l1 l2 A B X Y : List UInt8) (v w : Bool) (to e s d f u c : Int) : AHeap := [cells (bys B) 1 Md.own none]
noncomputable def hPortA9 (l l1 l2 A B X Y : List UInt8) (v w : Bool) (to e s d f u c : Int) : AHeap := [cells (bys l) 1 Md.far none, cells (AV.bool v :: bys X) 17 Md.own none, cells (AV.bool w :: bys Y) 17 Md.own none, cells [int u16 e, int u16 d, int u8 f] 3 Md.own none, cells (bys l1) 1 Md.own none, cells (bys A) 1 Md.own none, cells (bys B) 1 Md.own none]
noncomputable def hPortA10 (l l1 l2 A B X Y : List UInt8) (v w : Bool) (to e s d f u c : Int) : AHeap := [cells (bys l) 1 Md.far none, cells (AV.bool v :: bys X) 17 Md.own none, cells (AV.bool w :: bys Y) 17 Md.own none, cells [int u16 e, int u16 d, int u8 f] 3 Md.own none, cells (bys l2) 1 Md.own none, cells (bys A) 1 Md.own none, cells (bys B) 1 Md.own none]
theorem nfPortA {R : Type} (l l1 l2 A B X Y : List UInt8) (v w : Bool) (to e s d f u c : Int) (K : AV → AHeap → Option R) :
 qrun Try.prog (tPort l l1 l2 A B (hd7 e d f) s u c) 100 4 [(24, .bool false), (30, .bool false)] [] 13 [.int .u8 6, slB 0 l, .int .u16 to, .agg (.bool v :: bys X), .agg (.bool w :: bys Y)] [farB l] K =
 (if cdec (Says eSegR [int u8 6, AV.sl (some (0, 0)) l.length 0 false] (hPortA0 l l1 l2 A B X Y v w to e s d f u c) (AV.tup [AV.agg [int u16 e, int u16 d, int u8 f], int i64 0]) (hPortA1 l l1 l2 A B X Y v w to e s d f u c)) = true then
 (if (!boolV (some (AV.bool v)) == boolV (some (AV.bool w))) = false then
 (if cdec (Says eClone [AV.sl (some (0, 0)) l.length 0 false] (hPortA2 l l1 l2 A B X Y v w to e s d f u c) (AV.sl (some (4, 0)) l.length 0 false) (hPortA3 l l1 l2 A B X Y v w to e s d f u c)) = true then
 (if cdec (SaysH ePut16 [AV.sl (some (4, 0)) l.length 0 false, int i64 2, int u16 to] (hPortA4 l l1 l2 A B X Y v w to e s d f u c) (AV.bool true) (hPortA5 l l1 l2 A B X Y v w to e s d f u c)) = true then
 (if cdec (Says eW16 [AV.sl (some (0, 0)) l.length 0 false, int i64 16] (hPortA5 l l1 l2 A B X Y v w to e s d f u c) (AV.tup [int u16 s, AV.bool true]) (hPortA1 l l1 l2 A B X Y v w to e s d f u c)) = true then
 (if cdec (Says eUpdate [int u16 s, int u16 (intV (some (int u16 d))), int u16 to] (hPortA5 l l1 l2 A B X Y v w to e s d f u c) (int u16 u) (hPortA1 l l1 l2 A B X Y v w to e s d f u c)) = true then
 (if 17 ≤ (AV.bool v :: bys X).length then
 (if cdec (Says eBytes [AV.agg (List.take 17 (AV.bool v :: bys X))] (hPortA5 l l1 l2 A B X Y v w to e s d f u c) (AV.sl (some (5, 0)) A.length 0 false) (hPortA6 l l1 l2 A B X Y v w to e s d f u c)) = true then
 (if 17 ≤ (AV.bool w :: bys Y).length then
 (if cdec (Says eBytes [AV.agg (List.take 17 (AV.bool w :: bys Y))] (hPortA7 l l1 l2 A B X Y v w to e s d f u c) (AV.sl (some (6, 0)) B.length 0 false) (hPortA8 l l1 l2 A B X Y v w to e s d f u c)) = true then
 (if cdec (Says eChange [int u16 u, AV.sl (some (5, 0)) A.length 0 false, AV.sl (some (6, 0)) B.length 0 false] (hPortA9 l l1 l2 A B X Y v w to e s d f u c) (int u16 c) (hPortA1 l l1 l2 A B X Y v w to e s d f u c)) = true then
 (if 17 ≤ (AV.bool w :: bys Y).length then
 (if (AV.agg (List.take 17 (AV.bool w :: bys Y))).beq (AV.agg (List.take 17 (AV.bool w :: bys Y))) = true then
 (if cdec (SaysH ePut16 [AV.sl (some (4, 0)) l.length 0 false, int i64 16, int u16 c] (hPortA9 l l1 l2 A B X Y v w to e s d f u c) (AV.bool true) (hPortA10 l l1 l2 A B X Y v w to e s d f u c)) = true then
 K (AV.sl (some (4, 0)) l.length 0 false) ((hPortA10 l l1 l2 A B X Y v w to e s d f u c))
 else none) else none) else none) else none) else none) else none) else none) else none) else none) else none) else none) else none) else none) else none) := by
  kernel_rfl

noncomputable def hPortB0 (l l1 l2 A B X Y : List UInt8) (v w : Bool) (to e s d f u c : Int) : AHeap := [cells (bys l) 1 Md.far none, cells (AV.bool v :: bys X) 17 Md.own none, cells (AV.bool w :: bys Y) 17 Md.own none]
noncomputable def hPortB1 (l l1 l2 A B X Y : List UInt8) (v w : Bool) (to e s d f u c : Int) : AHeap := []
noncomputable def hPortB2 (l l1 l2 A B X Y : List UInt8) (v w : Bool) (to e s d f u c : Int) : AHeap := [cells (bys l) 1 Md.far none, cells (AV.bool v :: bys X) 17 Md.own none, cells (AV.bool w :: bys Y) 17 Md.own none, cells [int u16 e, int u16 d, int u8 f] 3 Md.own none]
noncomputable def hPortB3 (l l1 l2 A B X Y : List UInt8) (v w : Bool) (to e s d f u c : Int) : AHeap := [cells (bys l) 1 Md.own none]
noncomputable def hPortB4 (l l1 l2 A B X Y : List UInt8) (v w : Bool) (to e s d f u c : Int) : AHeap := [cells (bys l) 1 Md.far none, cells (AV.bool v :: bys X) 17 Md.own none, cells (AV.bool w :: bys Y) 17 Md.own none, cells [int u16 e, int u16 d, int u8 f] 3 Md.own none, cells (bys l) 1 Md.own none]
noncomputable def hPortB5 (l l1 l2 A B X Y : List UInt8) (v w : Bool) (to e s d f u c : Int) : AHeap := [cells (bys l) 1 Md.far none, cells (AV.bool v :: bys X) 17 Md.own none, cells (AV.bool w :: bys Y) 17 Md.own none, cells [int u16 e, int u16 d, int u8 f] 3 Md.own none, cells (bys l1) 1 Md.own none]
noncomputable def hPortB6 (l l1 l2 A B X Y : List UInt8) (v w : Bool) (to e s d f u c : Int) : AHeap := [cells (bys A) 1 Md.own none]
noncomputable def hPortB7 (l l1 l2 A B X Y : List UInt8) (v w : Bool) (to e s d f u c : Int) : AHeap := [cells (bys l) 1 Md.far none, cells (AV.bool v :: bys X) 17 Md.own none, cells (AV.bool w :: bys Y) 17 Md.own none, cells [int u16 e, int u16 d, int u8 f] 3 Md.own none, cells (bys l1) 1 Md.own none, cells (bys A) 1 Md.own none]
noncomputable def hPortB8 (l l1 l2 A B X Y : List UInt8) (v w : Bool) (to e s d f u c : Int) : AHeap := [cells (bys B) 1 Md.own none]
noncomputable def hPortB9 (l l1 l2 A B X Y : List UInt8) (v w : Bool) (to e s d f u c : Int) : AHeap := [cells (bys l) 1 Md.far none, cells (AV.bool v :: bys X) 17 Md.own none, cells (AV.bool w :: bys Y) 17 Md.own none, cells [int u16 e, int u16 d, int u8 f] 3 Md.own none, cells (bys l1) 1 Md.own none, cells (bys A) 1 Md.own none, cells (bys B) 1 Md.own none]
noncomputable def hPortB10 (l l1 l2 A B X Y : List UInt8) (v w : Bool) (to e s d f u c : Int) : AHeap := [cells (bys l) 1 Md.far none, cells (AV.bool v :: bys X) 17 Md.own none, cells (AV.bool w :: bys Y) 17 Md.own none, cells [int u16 e, int u16 d, int u8 f] 3 Md.own none, cells (bys l2) 1 Md.own none, cells (bys A) 1 Md.own none, cells (bys B) 1 Md.own none]
theorem nfPortB {R : Type} (l l1 l2 A B X Y : List UInt8) (v w : Bool) (to e s d f u c : Int) (K : AV → AHeap → Option R) :
 qrun Try.prog (tPort l l1 l2 A B (hd7 e d f) s u c) 100 4 [(24, .bool false), (30, .bool false), (49, .bool false), (67, .bool false)] [] 13 [.int .u8 17, slB 0 l, .int .u16 to, .agg (.bool v :: bys X), .agg (.bool w :: bys Y)] [farB l] K =
 (if cdec (Says eSegR [int u8 17, AV.sl (some (0, 0)) l.length 0 false] (hPortB0 l l1 l2 A B X Y v w to e s d f u c) (AV.tup [AV.agg [int u16 e, int u16 d, int u8 f], int i64 0]) (hPortB1 l l1 l2 A B X Y v w to e s d f u c)) = true then
 (if (!boolV (some (AV.bool v)) == boolV (some (AV.bool w))) = false then
 (if cdec (Says eClone [AV.sl (some (0, 0)) l.length 0 false] (hPortB2 l l1 l2 A B X Y v w to e s d f u c) (AV.sl (some (4, 0)) l.length 0 false) (hPortB3 l l1 l2 A B X Y v w to e s d f u c)) = true then
 (if cdec (SaysH ePut16 [AV.sl (some (4, 0)) l.length 0 false, int i64 2, int u16 to] (hPortB4 l l1 l2 A B X Y v w to e s d f u c) (AV.bool true) (hPortB5 l l1 l2 A B X Y v w to e s d f u c)) = true then
 (if cdec (Says eW16 [AV.sl (some (0, 0)) l.length 0 false, int i64 6] (hPortB5 l l1 l2 A B X Y v w to e s d f u c) (AV.tup [int u16 s, AV.bool true]) (hPortB1 l l1 l2 A B X Y v w to e s d f u c)) = true then
 (if (s == 0) = false then
 (if cdec (Says eUpdate [int u16 s, int u16 (intV (some (int u16 d))), int u16 to] (hPortB5 l l1 l2 A B X Y v w to e s d f u c) (int u16 u) (hPortB1 l l1 l2 A B X Y v w to e s d f u c)) = true then
 (if 17 ≤ (AV.bool v :: bys X).length then
 (if cdec (Says eBytes [AV.agg (List.take 17 (AV.bool v :: bys X))] (hPortB5 l l1 l2 A B X Y v w to e s d f u c) (AV.sl (some (5, 0)) A.length 0 false) (hPortB6 l l1 l2 A B X Y v w to e s d f u c)) = true then
 (if 17 ≤ (AV.bool w :: bys Y).length then
 (if cdec (Says eBytes [AV.agg (List.take 17 (AV.bool w :: bys Y))] (hPortB7 l l1 l2 A B X Y v w to e s d f u c) (AV.sl (some (6, 0)) B.length 0 false) (hPortB8 l l1 l2 A B X Y v w to e s d f u c)) = true then
 (if cdec (Says eChange [int u16 u, AV.sl (some (5, 0)) A.length 0 false, AV.sl (some (6, 0)) B.length 0 false] (hPortB9 l l1 l2 A B X Y v w to e s d f u c) (int u16 c) (hPortB1 l l1 l2 A B X Y v w to e s d f u c)) = true then
 (if 17 ≤ (AV.bool w :: bys Y).length then
 (if (AV.agg (List.take 17 (AV.bool w :: bys Y))).beq (AV.agg (List.take 17 (AV.bool w :: bys Y))) = true then
 (if (c == 0) = false then
 (if cdec (SaysH ePut16 [AV.sl (some (4, 0)) l.length 0 false, int i64 6, int u16 c] (hPortB9 l l1 l2 A B X Y v w to e s d f u c) (AV.bool true) (hPortB10 l l1 l2 A B X Y v w to e s d f u c)) = true then
 K (AV.sl (some (4, 0)) l.length 0 false) ((hPortB10 l l1 l2 A B X Y v w to e s d f u c))
 else none) else none) else none) else none) else none) else none) else none) else none) else none) else none) else none) else none) else none) else none) else none) else none) := by
  kernel_rfl

noncomputable def hPortC0 (l l1 l2 A B X Y : List UInt8) (v w : Bool) (to e s d f u c : Int) : AHeap := [cells (bys l) 1 Md.far none, cells (AV.bool v :: bys X) 17 Md.own none, cells (AV.bool w :: bys Y) 17 Md.own none]
noncomputable def hPortC1 (l l1 l2 A B X Y : List UInt8) (v w : Bool) (to e s d f u c : Int) : AHeap := []
noncomputable def hPortC2 (l l1 l2 A B X Y : List UInt8) (v w : Bool) (to e s d f u c : Int) : AHeap := [cells (bys l) 1 Md.far none, cells (AV.bool v :: bys X) 17 Md.own none, cells (AV.bool w :: bys Y) 17 Md.own none, cells [int u16 e, int u16 d, int u8 f] 3 Md.own none]
noncomputable def hPortC3 (l l1 l2 A B X Y : List UInt8) (v w : Bool) (to e s d f u c : Int) : AHeap := [cells (bys l) 1 Md.own none]
noncomputable def hPortC4 (l l1 l2 A B X Y : List UInt8) (v w : Bool) (to e s d f u c : Int) : AHeap := [cells (bys l) 1 Md.far none, cells (AV.bool v :: bys X) 17 Md.own none, cells (AV.bool w :: bys Y) 17 Md.own none, cells [int u16 e, int u16 d, int u8 f] 3 Md.own none, cells (bys l) 1 Md.own none]
noncomputable def hPortC5 (l l1 l2 A B X Y : List UInt8) (v w : Bool) (to e s d f u c : Int) : AHeap := [cells (bys l) 1 Md.far none, cells (AV.bool v :: bys X) 17 Md.own none, cells (AV.bool w :: bys Y) 17 Md.own none, cells [int u16 e, int u16 d, int u8 f] 3 Md.own none, cells (bys l1) 1 Md.own none]
theorem nfPortC {R : Type} (l l1 l2 A B X Y : List UInt8) (v w : Bool) (to e s d f u c : Int) (K : AV → AHeap → Option R) :
 qrun Try.prog (tPort l l1 l2 A B (hd7 e d f) s u c) 100 4 [(24, .bool false), (30, .bool false), (49, .bool true)] [] 13 [.int .u8 17, slB 0 l, .int .u16 to, .agg (.bool v :: bys X), .agg (.bool w :: bys Y)] [farB l] K =
 (if cdec (Says eSegR [int u8 17, AV.sl (some (0, 0)) l.length 0 false] (hPortC0 l l1 l2 A B X Y v w to e s d f u c) (AV.tup [AV.agg [int u16 e, int u16 d, int u8 f], int i64 0]) (hPortC1 l l1 l2 A B X Y v w to e s d f u c)) = true then
 (if (!boolV (some (AV.bool v)) == boolV (some (AV.bool w))) = false then
 (if cdec (Says eClone [AV.sl (some (0, 0)) l.length 0 false] (hPortC2 l l1 l2 A B X Y v w to e s d f u c) (AV.sl (some (4, 0)) l.length 0 false) (hPortC3 l l1 l2 A B X Y v w to e s d f u c)) = true then
 (if cdec (SaysH ePut16 [AV.sl (some (4, 0)) l.length 0 false, int i64 2, int u16 to] (hPortC4 l l1 l2 A B X Y v w to e s d f u c) (AV.bool true) (hPortC5 l l1 l2 A B X Y v w to e s d f u c)) = true then
 (if cdec (Says eW16 [AV.sl (some (0, 0)) l.length 0 false, int i64 6] (hPortC5 l l1 l2 A B X Y v w to e s d f u c) (AV.tup [int u16 s, AV.bool true]) (hPortC1 l l1 l2 A B X Y v w to e s d f u c)) = true then
 (if (s == 0) = true then
 K (AV.sl (some (4, 0)) l.length 0 false) ((hPortC5 l l1 l2 A B X Y v w to e s d f u c))
 else none) else none) else none) else none) else none) else none) := by
  kernel_rfl

noncomputable def hPortD0 (l l1 l2 A B X Y : List UInt8) (v w : Bool) (to e s d f u c : Int) : AHeap := [cells (bys l) 1 Md.far none, cells (AV.bool v :: bys X) 17 Md.own none, cells (AV.bool w :: bys Y) 17 Md.own none]
noncomputable def hPortD1 (l l1 l2 A B X Y : List UInt8) (v w : Bool) (to e s d f u c : Int) : AHeap := []
noncomputable def hPortD2 (l l1 l2 A B X Y : List UInt8) (v w : Bool) (to e s d f u c : Int) : AHeap := [cells (bys l) 1 Md.far none, cells (AV.bool v :: bys X) 17 Md.own none, cells (AV.bool w :: bys Y) 17 Md.own none, cells [int u16 e, int u16 d, int u8 f] 3 Md.own none]
noncomputable def hPortD3 (l l1 l2 A B X Y : List UInt8) (v w : Bool) (to e s d f u c : Int) : AHeap := [cells (bys l) 1 Md.own none]
noncomputable def hPortD4 (l l1 l2 A B X Y : List UInt8) (v w : Bool) (to e s d f u c : Int) : AHeap := [cells (bys l) 1 Md.far none, cells (AV.bool v :: bys X) 17 Md.own none, cells (AV.bool w :: bys Y) 17 Md.own none, cells [int u16 e, int u16 d, int u8 f] 3 Md.own none, cells (bys l) 1 Md.own none]
noncomputable def hPortD5 (l l1 l2 A B X Y : List UInt8) (v w : Bool) (to e s d f u c : Int) : AHeap := [cells (bys l) 1 Md.far none, cells (AV.bool v :: bys X) 17 Md.own none, cells (AV.bool w :: bys Y) 17 Md.own none, cells [int u16 e, int u16 d, int u8 f] 3 Md.own none, cells (bys l1) 1 Md.own none]
noncomputable def hPortD6 (l l1 l2 A B X Y : List UInt8) (v w : Bool) (to e s d f u c : Int) : AHeap := [cells (bys A) 1 Md.own none]
noncomputable def hPortD7 (l l1 l2 A B X Y : List UInt8) (v w : Bool) (to e s d f u c : Int) : AHeap := [cells (bys l) 1 Md.far none, cells (AV.bool v :: bys X) 17 Md.own none, cells (AV.bool w :: bys Y) 17 Md.own none, cells [int u16 e, int u16 d, int u8 f] 3 Md.own none, cells (bys l1) 1 Md.own none, cells (bys A) 1 Md.own none]
noncomputable def hPortD8 (l l1 l2 A B X Y : List UInt8) (v w : Bool) (to e s d f u c : Int) : AHeap := [cells (bys B) 1 Md.own none]
noncomputable def hPortD9 (l l1 l2 A B X Y : List UInt8) (v w : Bool) (to e s d f u c : Int) : AHeap := [cells (bys l) 1 Md.far none, cells (AV.bool v :: bys X) 17 Md.own none, cells (AV.bool w :: bys Y) 17 Md.own none, cells [int u16 e, int u16 d, int u8 f] 3 Md.own none, cells (bys l1) 1 Md.own none, cells (bys A) 1 Md.own none, cells (bys B) 1 Md.own none]
noncomputable def hPortD10 (l l1 l2 A B X Y : List UInt8) (v w : Bool) (to e s d f u c : Int) : AHeap := [cells (bys l) 1 Md.far none, cells (AV.bool v :: bys X) 17 Md.own none, cells (AV.bool w :: bys Y) 17 Md.own none, cells [int u16 e, int u16 d, int u8 f] 3 Md.own none, cells (bys l2) 1 Md.own none, cells (bys A) 1 Md.own none, cells (bys B) 1 Md.own none]
theorem nfPortD {R : Type} (l l1 l2 A B X Y : List UInt8) (v w : Bool) (to e s d f u c : Int) (K : AV → AHeap → Option R) :
 qrun Try.prog (tPort l l1 l2 A B (hd7 e d f) s u c) 100 4 [(24, .bool false), (30, .bool false), (49, .bool false), (67, .bool true)] [] 13 [.int .u8 17, slB 0 l, .int .u16 to, .agg (.bool v :: bys X), .agg (.bool w :: bys Y)] [farB l] K =
 (if cdec (Says eSegR [int u8 17, AV.sl (some (0, 0)) l.length 0 false] (hPortD0 l l1 l2 A B X Y v w to e s d f u c) (AV.tup [AV.agg [int u16 e, int u16 d, int u8 f], int i64 0]) (hPortD1 l l1 l2 A B X Y v w to e s d f u c)) = true then
 (if (!boolV (some (AV.bool v)) == boolV (some (AV.bool w))) = false then
 (if cdec (Says eClone [AV.sl (some (0, 0)) l.length 0 false] (hPortD2 l l1 l2 A B X Y v w to e s d f u c) (AV.sl (some (4, 0)) l.length 0 false) (hPortD3 l l1 l2 A B X Y v w to e s d f u c)) = true then
 (if cdec (SaysH ePut16 [AV.sl (some (4, 0)) l.length 0 false, int i64 2, int u16 to] (hPortD4 l l1 l2 A B X Y v w to e s d f u c) (AV.bool true) (hPortD5 l l1 l2 A B X Y v w to e s d f u c)) = true then
 (if cdec (Says eW16 [AV.sl (some (0, 0)) l.length 0 false, int i64 6] (hPortD5 l l1 l2 A B X Y v w to e s d f u c) (AV.tup [int u16 s, AV.bool true]) (hPortD1 l l1 l2 A B X Y v w to e s d f u c)) = true then
 (if (s == 0) = false then
 (if cdec (Says eUpdate [int u16 s, int u16 (intV (some (int u16 d))), int u16 to] (hPortD5 l l1 l2 A B X Y v w to e s d f u c) (int u16 u) (hPortD1 l l1 l2 A B X Y v w to e s d f u c)) = true then
 (if 17 ≤ (AV.bool v :: bys X).length then
 (if cdec (Says eBytes [AV.agg (List.take 17 (AV.bool v :: bys X))] (hPortD5 l l1 l2 A B X Y v w to e s d f u c) (AV.sl (some (5, 0)) A.length 0 false) (hPortD6 l l1 l2 A B X Y v w to e s d f u c)) = true then
 (if 17 ≤ (AV.bool w :: bys Y).length then
 (if cdec (Says eBytes [AV.agg (List.take 17 (AV.bool w :: bys Y))] (hPortD7 l l1 l2 A B X Y v w to e s d f u c) (AV.sl (some (6, 0)) B.length 0 false) (hPortD8 l l1 l2 A B X Y v w to e s d f u c)) = true then
 (if cdec (Says eChange [int u16 u, AV.sl (some (5, 0)) A.length 0 false, AV.sl (some (6, 0)) B.length 0 false] (hPortD9 l l1 l2 A B X Y v w to e s d f u c) (int u16 c) (hPortD1 l l1 l2 A B X Y v w to e s d f u c)) = true then
 (if 17 ≤ (AV.bool w :: bys Y).length then
 (if (AV.agg (List.take 17 (AV.bool w :: bys Y))).beq (AV.agg (List.take 17 (AV.bool w :: bys Y))) = true then
 (if (c == 0) = true then
 (if cdec (SaysH ePut16 [AV.sl (some (4, 0)) l.length 0 false, int i64 6, int u16 65535] (hPortD9 l l1 l2 A B X Y v w to e s d f u c) (AV.bool true) (hPortD10 l l1 l2 A B X Y v w to e s d f u c)) = true then
 K (AV.sl (some (4, 0)) l.length 0 false) ((hPortD10 l l1 l2 A B X Y v w to e s d f u c))
 else none) else none) else none) else none) else none) else none) else none) else none) else none) else none) else none) else none) else none) else none) else none) else none) := by
  kernel_rfl

noncomputable def hPortE0 (p : Int) (l l1 l2 A B X Y : List UInt8) (v w : Bool) (to e s d f u c : Int) : AHeap := [cells (bys l) 1 Md.far none, cells (AV.bool v :: bys X) 17 Md.own none, cells (AV.bool w :: bys Y) 17 Md.own none]
noncomputable def hPortE1 (p : Int) (l l1 l2 A B X Y : List UInt8) (v w : Bool) (to e s d f u c : Int) : AHeap := []
noncomputable def hPortE2 (p : Int) (l l1 l2 A B X Y : List UInt8) (v w : Bool) (to e s d f u c : Int) : AHeap := [cells (bys l) 1 Md.far none, cells (AV.bool v :: bys X) 17 Md.own none, cells (AV.bool w :: bys Y) 17 Md.own none, cells [int u16 0, int u16 0, int u8 0] 3 Md.own none]
theorem nfPortE {R : Type} (p : Int) (l l1 l2 A B X Y : List UInt8) (v w : Bool) (to e s d f u c : Int) (K : AV → AHeap → Option R) :
 qrun Try.prog (tPort l l1 l2 A B (hd7N s) s u c) 100 4 [(24, .bool true)] [] 13 [.int .u8 p, slB 0 l, .int .u16 to, .agg (.bool v :: bys X), .agg (.bool w :: bys Y)] [farB l] K =
 (if cdec (Says eSegR [int u8 p, AV.sl (some (0, 0)) l.length 0 false] (hPortE0 p l l1 l2 A B X Y v w to e s d f u c) (AV.tup [AV.agg [int u16 0, int u16 0, int u8 0], int i64 s]) (hPortE1 p l l1 l2 A B X Y v w to e s d f u c)) = true then
 (if (s != 0) = true then
 K (AV.sl none 0 0 true) ((hPortE2 p l l1 l2 A B X Y v w to e s d f u c))
 else none) else none) := by
  kernel_rfl

noncomputable def hPortF0 (p : Int) (l l1 l2 A B X Y : List UInt8) (v w : Bool) (to e s d f u c : Int) : AHeap := [cells (bys l) 1 Md.far none, cells (AV.bool v :: bys X) 17 Md.own none, cells (AV.bool w :: bys Y) 17 Md.own none]
noncomputable def hPortF1 (p : Int) (l l1 l2 A B X Y : List UInt8) (v w : Bool) (to e s d f u c : Int) : AHeap := []
noncomputable def hPortF2 (p : Int) (l l1 l2 A B X Y : List UInt8) (v w : Bool) (to e s d f u c : Int) : AHeap := [cells (bys l) 1 Md.far none, cells (AV.bool v :: bys X) 17 Md.own none, cells (AV.bool w :: bys Y) 17 Md.own none, cells [int u16 e, int u16 d, int u8 f] 3 Md.own none]
theorem nfPortF {R : Type} (p : Int) (l l1 l2 A B X Y : List UInt8) (v w : Bool) (to e s d f u c : Int) (K : AV → AHeap → Option R) :
 qrun Try.prog (tPort l l1 l2 A B (hd7 e d f) s u c) 100 4 [(24, .bool false), (30, .bool true)] [] 13 [.int .u8 p, slB 0 l, .int .u16 to, .agg (.bool v :: bys X), .agg (.bool w :: bys Y)] [farB l] K =
 (if cdec (Says eSegR [int u8 p, AV.sl (some (0, 0)) l.length 0 false] (hPortF0 p l l1 l2 A B X Y v w to e s d f u c) (AV.tup [AV.agg [int u16 e, int u16 d, int u8 f], int i64 0]) (hPortF1 p l l1 l2 A B X Y v w to e s d f u c)) = true then
 (if (!boolV (some (AV.bool v)) == boolV (some (AV.bool w))) = true then
 K (AV.sl none 0 0 true) ((hPortF2 p l l1 l2 A B X Y v w to e s d f u c))
 else none) else none) := by
  kernel_rfl

end Go.Proofs.Ytmlenlfhciapfaa.L
