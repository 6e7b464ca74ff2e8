/- seg's Port, and the reference's. -/
import Derived.Test.YtnchnjkakddhlaaOctB
set_option autoImplicit false
set_option maxRecDepth 100000
set_option linter.unusedVariables false
set_option linter.unusedSimpArgs false
namespace Go.Proofs.Ytnchnjkakddhlaa.L
open Go Go.Abs
open Go.IntKind (u8 u16 u32 u64 i64)
open Go.Abs.AV (int)
open Go.Abs.ABlk (cells)

noncomputable def tPort (l l1 l2 A B : List UInt8) (v : AV) (s u c : Int) : Tbl := [(41, entF (eSay eSegR [(3, v, [])])), (22, entF (eSay eClone [(4, slB 4 l, [ownB l])])),
  (44, entF (eSayH ePut16 [(5, .bool true, [(4, ownB l1)], []), (7, .bool true, [(4, ownB l2)], [])])), (43, entF (eSay eW16 [(5, .tup [.int .u16 s, .bool true], [])])),
  (49, entF (eSay eUpdate [(5, .int .u16 u, [])])), (46, entF (eSay eBytes [(5, slB 5 A, [ownB A]), (6, slB 6 B, [ownB B])])), (45, entF (eSay eChange [(7, .int .u16 c, [])]))]
theorem tPortOk (l l1 l2 A B : List UInt8) (v : AV) (s u c : Int) : ∀ f E, (tPort l l1 l2 A B v s u c).find f = some E → SoundE Try.prog f E := find_cons (sSay sSegR _) (find_cons (sSay sClone _) (find_cons (sSayH sPut16 _) (find_cons (sSay sW16 _) (find_cons (sSay sUpdate _) (find_cons (sSay sABytes _) (find_cons (sSay sChange _) (find_nil _)))))))
def hd7 (s d f : Int) : AV := .tup [.agg [.int .u16 s, .int .u16 d, .int .u8 f], .int .i64 0]
def hd7N (r : Int) : AV := .tup [.agg [.int .u16 0, .int .u16 0, .int .u8 0], .int .i64 r]
noncomputable def tRPort (l l1 A B : List UInt8) (v : AV) (s u c : Int) : Tbl := [(37, entF (eSay eRSegR [(3, v, [])])), (50, entF (eSay eBe16 [(6, .int .i64 s, [])])),
  (29, entF (eSay eBytes [(6, slB 6 A, [ownB A]), (7, slB 7 B, [ownB B])])), (51, entF (eSay eRChange [(6, .int .i64 u, []), (8, .int .i64 c, [])]))]
theorem tRPortOk (l l1 A B : List UInt8) (v : AV) (s u c : Int) : ∀ f E, (tRPort l l1 A B v s u c).find f = some E → SoundE Try.prog f E := find_cons (sSay sRSegR _) (find_cons (sSay sBe16 _) (find_cons (sSay sRBytes _) (find_cons (sSay sRChange _) (find_nil _))))
def rd7 (s d f : Int) : AV := .tup [.agg [.int .i64 s, .int .i64 d, .int .u8 f], .int .i64 0]
def rd7N (r : Int) : AV := .tup [.agg [.int .i64 0, .int .i64 0, .int .u8 0], .int .i64 r]
noncomputable def hPortA0 (l l1 l2 A B X Y : List UInt8) (v w : Bool) (to e s d f u c : Int) : AHeap := [cells (bys l) 1 Md.far none, cells (AV.bool v :: bys X) 17 Md.own none, cells (AV.bool w :: bys Y) 17 Md.own none]
noncomputable def hPortA1 (l l1 l2 A B X Y : List UInt8) (v w : Bool) (to e s d f u c : Int) : AHeap := []
noncomputable def hPortA2 (l l1 l2 A B X Y : List UInt8) (v w : Bool) (to e s d f u c : Int) : AHeap := (hPortA0 l l1 l2 A B X Y v w to e s d f u c) ++ [cells [int u16 e, int u16 d, int u8 f] 3 Md.own none]
noncomputable def hPortA3 (l l1 l2 A B X Y : List UInt8) (v w : Bool) (to e s d f u c : Int) : AHeap := [cells (bys l) 1 Md.own none]
noncomputable def hPortA4 (l l1 l2 A B X Y : List UInt8) (v w : Bool) (to e s d f u c : Int) : AHeap := (hPortA2 l l1 l2 A B X Y v w to e s d f u c) ++ [cells (bys l) 1 Md.own none]
noncomputable def hPortA5 (l l1 l2 A B X Y : List UInt8) (v w : Bool) (to e s d f u c : Int) : AHeap := (hPortA2 l l1 l2 A B X Y v w to e s d f u c) ++ [cells (bys l1) 1 Md.own none]
noncomputable def hPortA6 (l l1 l2 A B X Y : List UInt8) (v w : Bool) (to e s d f u c : Int) : AHeap := [cells (bys A) 1 Md.own none]
noncomputable def hPortA7 (l l1 l2 A B X Y : List UInt8) (v w : Bool) (to e s d f u c : Int) : AHeap := (hPortA5 l l1 l2 A B X Y v w to e s d f u c) ++ [cells (bys A) 1 Md.own none]
noncomputable def hPortA8 (l l1 l2 A B X Y : List UInt8) (v w : Bool) (to e s d f u c : Int) : AHeap := [cells (bys B) 1 Md.own none]
noncomputable def hPortA9 (l l1 l2 A B X Y : List UInt8) (v w : Bool) (to e s d f u c : Int) : AHeap := (hPortA7 l l1 l2 A B X Y v w to e s d f u c) ++ [cells (bys B) 1 Md.own none]
noncomputable def hPortA10 (l l1 l2 A B X Y : List UInt8) (v w : Bool) (to e s d f u c : Int) : AHeap := ((hPortA9 l l1 l2 A B X Y v w to e s d f u c).set 4 (cells (bys l2) 1 Md.own none))
theorem nfPortA {R : Type} (l l1 l2 A B X Y : List UInt8) (v w : Bool) (to e s d f u c : Int) (K : AV → AHeap → Option R) :
 qrun Try.prog (tPort l l1 l2 A B (hd7 e d f) s u c) 100 4 [(24, .bool false), (30, .bool false)] [] 23 [.int .u8 6, slB 0 l, .int .u16 to, .agg (.bool v :: bys X), .agg (.bool w :: bys Y)] [farB l] K =
 (if cdec (Says eSegR [int u8 6, AV.sl (some (0, 0)) l.length 0 false] (hPortA0 l l1 l2 A B X Y v w to e s d f u c) (AV.tup [AV.agg [int u16 e, int u16 d, int u8 f], int i64 0]) (hPortA1 l l1 l2 A B X Y v w to e s d f u c)) = true then
 (if (!boolV (some (AV.bool v)) == boolV (some (AV.bool w))) = false then
 (if cdec (Says eClone [AV.sl (some (0, 0)) l.length 0 false] (hPortA2 l l1 l2 A B X Y v w to e s d f u c) (AV.sl (some (4, 0)) l.length 0 false) (hPortA3 l l1 l2 A B X Y v w to e s d f u c)) = true then
 (if cdec (SaysH ePut16 [AV.sl (some (4, 0)) l.length 0 false, int i64 2, int u16 to] (hPortA4 l l1 l2 A B X Y v w to e s d f u c) (AV.bool true) (hPortA5 l l1 l2 A B X Y v w to e s d f u c)) = true then
 (if cdec (Says eW16 [AV.sl (some (0, 0)) l.length 0 false, int i64 16] (hPortA5 l l1 l2 A B X Y v w to e s d f u c) (AV.tup [int u16 s, AV.bool true]) (hPortA1 l l1 l2 A B X Y v w to e s d f u c)) = true then
 (if cdec (Says eUpdate [int u16 s, int u16 (intV (some (int u16 d))), int u16 to] (hPortA5 l l1 l2 A B X Y v w to e s d f u c) (int u16 u) (hPortA1 l l1 l2 A B X Y v w to e s d f u c)) = true then
 (if 17 ≤ (AV.bool v :: bys X).length then
 (if cdec (Says eBytes [AV.agg (List.take 17 (AV.bool v :: bys X))] (hPortA5 l l1 l2 A B X Y v w to e s d f u c) (AV.sl (some (5, 0)) A.length 0 false) (hPortA6 l l1 l2 A B X Y v w to e s d f u c)) = true then
 (if 17 ≤ (AV.bool w :: bys Y).length then
 (if cdec (Says eBytes [AV.agg (List.take 17 (AV.bool w :: bys Y))] (hPortA7 l l1 l2 A B X Y v w to e s d f u c) (AV.sl (some (6, 0)) B.length 0 false) (hPortA8 l l1 l2 A B X Y v w to e s d f u c)) = true then
 (if cdec (Says eChange [int u16 u, AV.sl (some (5, 0)) A.length 0 false, AV.sl (some (6, 0)) B.length 0 false] (hPortA9 l l1 l2 A B X Y v w to e s d f u c) (int u16 c) (hPortA1 l l1 l2 A B X Y v w to e s d f u c)) = true then
 (if 17 ≤ (AV.bool w :: bys Y).length then
 (if (AV.agg (List.take 17 (AV.bool w :: bys Y))).beq (AV.agg (List.take 17 (AV.bool w :: bys Y))) = true then
 (if cdec (SaysH ePut16 [AV.sl (some (4, 0)) l.length 0 false, int i64 16, int u16 c] (hPortA9 l l1 l2 A B X Y v w to e s d f u c) (AV.bool true) (hPortA10 l l1 l2 A B X Y v w to e s d f u c)) = true then
 K (AV.sl (some (4, 0)) l.length 0 false) ((hPortA10 l l1 l2 A B X Y v w to e s d f u c))
 else none) else none) else none) else none) else none) else none) else none) else none) else none) else none) else none) else none) else none) else none) := by
  kernel_rfl

noncomputable def hPortB0 (l l1 l2 A B X Y : List UInt8) (v w : Bool) (to e s d f u c : Int) : AHeap := (hPortA0 l l1 l2 A B X Y v w to e s d f u c)
noncomputable def hPortB1 (l l1 l2 A B X Y : List UInt8) (v w : Bool) (to e s d f u c : Int) : AHeap := []
noncomputable def hPortB2 (l l1 l2 A B X Y : List UInt8) (v w : Bool) (to e s d f u c : Int) : AHeap := (hPortA2 l l1 l2 A B X Y v w to e s d f u c)
noncomputable def hPortB3 (l l1 l2 A B X Y : List UInt8) (v w : Bool) (to e s d f u c : Int) : AHeap := [cells (bys l) 1 Md.own none]
noncomputable def hPortB4 (l l1 l2 A B X Y : List UInt8) (v w : Bool) (to e s d f u c : Int) : AHeap := (hPortA4 l l1 l2 A B X Y v w to e s d f u c)
noncomputable def hPortB5 (l l1 l2 A B X Y : List UInt8) (v w : Bool) (to e s d f u c : Int) : AHeap := (hPortA5 l l1 l2 A B X Y v w to e s d f u c)
noncomputable def hPortB6 (l l1 l2 A B X Y : List UInt8) (v w : Bool) (to e s d f u c : Int) : AHeap := [cells (bys A) 1 Md.own none]
noncomputable def hPortB7 (l l1 l2 A B X Y : List UInt8) (v w : Bool) (to e s d f u c : Int) : AHeap := (hPortA7 l l1 l2 A B X Y v w to e s d f u c)
noncomputable def hPortB8 (l l1 l2 A B X Y : List UInt8) (v w : Bool) (to e s d f u c : Int) : AHeap := [cells (bys B) 1 Md.own none]
noncomputable def hPortB9 (l l1 l2 A B X Y : List UInt8) (v w : Bool) (to e s d f u c : Int) : AHeap := (hPortA9 l l1 l2 A B X Y v w to e s d f u c)
noncomputable def hPortB10 (l l1 l2 A B X Y : List UInt8) (v w : Bool) (to e s d f u c : Int) : AHeap := (hPortA10 l l1 l2 A B X Y v w to e s d f u c)
theorem nfPortB {R : Type} (l l1 l2 A B X Y : List UInt8) (v w : Bool) (to e s d f u c : Int) (K : AV → AHeap → Option R) :
 qrun Try.prog (tPort l l1 l2 A B (hd7 e d f) s u c) 100 4 [(24, .bool false), (30, .bool false), (49, .bool false), (67, .bool false)] [] 23 [.int .u8 17, slB 0 l, .int .u16 to, .agg (.bool v :: bys X), .agg (.bool w :: bys Y)] [farB l] K =
 (if cdec (Says eSegR [int u8 17, AV.sl (some (0, 0)) l.length 0 false] (hPortB0 l l1 l2 A B X Y v w to e s d f u c) (AV.tup [AV.agg [int u16 e, int u16 d, int u8 f], int i64 0]) (hPortB1 l l1 l2 A B X Y v w to e s d f u c)) = true then
 (if (!boolV (some (AV.bool v)) == boolV (some (AV.bool w))) = false then
 (if cdec (Says eClone [AV.sl (some (0, 0)) l.length 0 false] (hPortB2 l l1 l2 A B X Y v w to e s d f u c) (AV.sl (some (4, 0)) l.length 0 false) (hPortB3 l l1 l2 A B X Y v w to e s d f u c)) = true then
 (if cdec (SaysH ePut16 [AV.sl (some (4, 0)) l.length 0 false, int i64 2, int u16 to] (hPortB4 l l1 l2 A B X Y v w to e s d f u c) (AV.bool true) (hPortB5 l l1 l2 A B X Y v w to e s d f u c)) = true then
 (if cdec (Says eW16 [AV.sl (some (0, 0)) l.length 0 false, int i64 6] (hPortB5 l l1 l2 A B X Y v w to e s d f u c) (AV.tup [int u16 s, AV.bool true]) (hPortB1 l l1 l2 A B X Y v w to e s d f u c)) = true then
 (if (s == 0) = false then
 (if cdec (Says eUpdate [int u16 s, int u16 (intV (some (int u16 d))), int u16 to] (hPortB5 l l1 l2 A B X Y v w to e s d f u c) (int u16 u) (hPortB1 l l1 l2 A B X Y v w to e s d f u c)) = true then
 (if 17 ≤ (AV.bool v :: bys X).length then
 (if cdec (Says eBytes [AV.agg (List.take 17 (AV.bool v :: bys X))] (hPortB5 l l1 l2 A B X Y v w to e s d f u c) (AV.sl (some (5, 0)) A.length 0 false) (hPortB6 l l1 l2 A B X Y v w to e s d f u c)) = true then
 (if 17 ≤ (AV.bool w :: bys Y).length then
 (if cdec (Says eBytes [AV.agg (List.take 17 (AV.bool w :: bys Y))] (hPortB7 l l1 l2 A B X Y v w to e s d f u c) (AV.sl (some (6, 0)) B.length 0 false) (hPortB8 l l1 l2 A B X Y v w to e s d f u c)) = true then
 (if cdec (Says eChange [int u16 u, AV.sl (some (5, 0)) A.length 0 false, AV.sl (some (6, 0)) B.length 0 false] (hPortB9 l l1 l2 A B X Y v w to e s d f u c) (int u16 c) (hPortB1 l l1 l2 A B X Y v w to e s d f u c)) = true then
 (if 17 ≤ (AV.bool w :: bys Y).length then
 (if (AV.agg (List.take 17 (AV.bool w :: bys Y))).beq (AV.agg (List.take 17 (AV.bool w :: bys Y))) = true then
 (if (c == 0) = false then
 (if cdec (SaysH ePut16 [AV.sl (some (4, 0)) l.length 0 false, int i64 6, int u16 c] (hPortB9 l l1 l2 A B X Y v w to e s d f u c) (AV.bool true) (hPortB10 l l1 l2 A B X Y v w to e s d f u c)) = true then
 K (AV.sl (some (4, 0)) l.length 0 false) ((hPortB10 l l1 l2 A B X Y v w to e s d f u c))
 else none) else none) else none) else none) else none) else none) else none) else none) else none) else none) else none) else none) else none) else none) else none) else none) := by
  kernel_rfl

noncomputable def hPortC0 (l l1 l2 A B X Y : List UInt8) (v w : Bool) (to e s d f u c : Int) : AHeap := (hPortA0 l l1 l2 A B X Y v w to e s d f u c)
noncomputable def hPortC1 (l l1 l2 A B X Y : List UInt8) (v w : Bool) (to e s d f u c : Int) : AHeap := []
noncomputable def hPortC2 (l l1 l2 A B X Y : List UInt8) (v w : Bool) (to e s d f u c : Int) : AHeap := (hPortA2 l l1 l2 A B X Y v w to e s d f u c)
noncomputable def hPortC3 (l l1 l2 A B X Y : List UInt8) (v w : Bool) (to e s d f u c : Int) : AHeap := [cells (bys l) 1 Md.own none]
noncomputable def hPortC4 (l l1 l2 A B X Y : List UInt8) (v w : Bool) (to e s d f u c : Int) : AHeap := (hPortA4 l l1 l2 A B X Y v w to e s d f u c)
noncomputable def hPortC5 (l l1 l2 A B X Y : List UInt8) (v w : Bool) (to e s d f u c : Int) : AHeap := (hPortA5 l l1 l2 A B X Y v w to e s d f u c)
theorem nfPortC {R : Type} (l l1 l2 A B X Y : List UInt8) (v w : Bool) (to e s d f u c : Int) (K : AV → AHeap → Option R) :
 qrun Try.prog (tPort l l1 l2 A B (hd7 e d f) s u c) 100 4 [(24, .bool false), (30, .bool false), (49, .bool true)] [] 23 [.int .u8 17, slB 0 l, .int .u16 to, .agg (.bool v :: bys X), .agg (.bool w :: bys Y)] [farB l] K =
 (if cdec (Says eSegR [int u8 17, AV.sl (some (0, 0)) l.length 0 false] (hPortC0 l l1 l2 A B X Y v w to e s d f u c) (AV.tup [AV.agg [int u16 e, int u16 d, int u8 f], int i64 0]) (hPortC1 l l1 l2 A B X Y v w to e s d f u c)) = true then
 (if (!boolV (some (AV.bool v)) == boolV (some (AV.bool w))) = false then
 (if cdec (Says eClone [AV.sl (some (0, 0)) l.length 0 false] (hPortC2 l l1 l2 A B X Y v w to e s d f u c) (AV.sl (some (4, 0)) l.length 0 false) (hPortC3 l l1 l2 A B X Y v w to e s d f u c)) = true then
 (if cdec (SaysH ePut16 [AV.sl (some (4, 0)) l.length 0 false, int i64 2, int u16 to] (hPortC4 l l1 l2 A B X Y v w to e s d f u c) (AV.bool true) (hPortC5 l l1 l2 A B X Y v w to e s d f u c)) = true then
 (if cdec (Says eW16 [AV.sl (some (0, 0)) l.length 0 false, int i64 6] (hPortC5 l l1 l2 A B X Y v w to e s d f u c) (AV.tup [int u16 s, AV.bool true]) (hPortC1 l l1 l2 A B X Y v w to e s d f u c)) = true then
 (if (s == 0) = true then
 K (AV.sl (some (4, 0)) l.length 0 false) ((hPortC5 l l1 l2 A B X Y v w to e s d f u c))
 else none) else none) else none) else none) else none) else none) := by
  kernel_rfl

noncomputable def hPortD0 (l l1 l2 A B X Y : List UInt8) (v w : Bool) (to e s d f u c : Int) : AHeap := (hPortA0 l l1 l2 A B X Y v w to e s d f u c)
noncomputable def hPortD1 (l l1 l2 A B X Y : List UInt8) (v w : Bool) (to e s d f u c : Int) : AHeap := []
noncomputable def hPortD2 (l l1 l2 A B X Y : List UInt8) (v w : Bool) (to e s d f u c : Int) : AHeap := (hPortA2 l l1 l2 A B X Y v w to e s d f u c)
noncomputable def hPortD3 (l l1 l2 A B X Y : List UInt8) (v w : Bool) (to e s d f u c : Int) : AHeap := [cells (bys l) 1 Md.own none]
noncomputable def hPortD4 (l l1 l2 A B X Y : List UInt8) (v w : Bool) (to e s d f u c : Int) : AHeap := (hPortA4 l l1 l2 A B X Y v w to e s d f u c)
noncomputable def hPortD5 (l l1 l2 A B X Y : List UInt8) (v w : Bool) (to e s d f u c : Int) : AHeap := (hPortA5 l l1 l2 A B X Y v w to e s d f u c)
noncomputable def hPortD6 (l l1 l2 A B X Y : List UInt8) (v w : Bool) (to e s d f u c : Int) : AHeap := [cells (bys A) 1 Md.own none]
noncomputable def hPortD7 (l l1 l2 A B X Y : List UInt8) (v w : Bool) (to e s d f u c : Int) : AHeap := (hPortA7 l l1 l2 A B X Y v w to e s d f u c)
noncomputable def hPortD8 (l l1 l2 A B X Y : List UInt8) (v w : Bool) (to e s d f u c : Int) : AHeap := [cells (bys B) 1 Md.own none]
noncomputable def hPortD9 (l l1 l2 A B X Y : List UInt8) (v w : Bool) (to e s d f u c : Int) : AHeap := (hPortA9 l l1 l2 A B X Y v w to e s d f u c)
noncomputable def hPortD10 (l l1 l2 A B X Y : List UInt8) (v w : Bool) (to e s d f u c : Int) : AHeap := (hPortA10 l l1 l2 A B X Y v w to e s d f u c)
theorem nfPortD {R : Type} (l l1 l2 A B X Y : List UInt8) (v w : Bool) (to e s d f u c : Int) (K : AV → AHeap → Option R) :
 qrun Try.prog (tPort l l1 l2 A B (hd7 e d f) s u c) 100 4 [(24, .bool false), (30, .bool false), (49, .bool false), (67, .bool true)] [] 23 [.int .u8 17, slB 0 l, .int .u16 to, .agg (.bool v :: bys X), .agg (.bool w :: bys Y)] [farB l] K =
 (if cdec (Says eSegR [int u8 17, AV.sl (some (0, 0)) l.length 0 false] (hPortD0 l l1 l2 A B X Y v w to e s d f u c) (AV.tup [AV.agg [int u16 e, int u16 d, int u8 f], int i64 0]) (hPortD1 l l1 l2 A B X Y v w to e s d f u c)) = true then
 (if (!boolV (some (AV.bool v)) == boolV (some (AV.bool w))) = false then
 (if cdec (Says eClone [AV.sl (some (0, 0)) l.length 0 false] (hPortD2 l l1 l2 A B X Y v w to e s d f u c) (AV.sl (some (4, 0)) l.length 0 false) (hPortD3 l l1 l2 A B X Y v w to e s d f u c)) = true then
 (if cdec (SaysH ePut16 [AV.sl (some (4, 0)) l.length 0 false, int i64 2, int u16 to] (hPortD4 l l1 l2 A B X Y v w to e s d f u c) (AV.bool true) (hPortD5 l l1 l2 A B X Y v w to e s d f u c)) = true then
 (if cdec (Says eW16 [AV.sl (some (0, 0)) l.length 0 false, int i64 6] (hPortD5 l l1 l2 A B X Y v w to e s d f u c) (AV.tup [int u16 s, AV.bool true]) (hPortD1 l l1 l2 A B X Y v w to e s d f u c)) = true then
 (if (s == 0) = false then
 (if cdec (Says eUpdate [int u16 s, int u16 (intV (some (int u16 d))), int u16 to] (hPortD5 l l1 l2 A B X Y v w to e s d f u c) (int u16 u) (hPortD1 l l1 l2 A B X Y v w to e s d f u c)) = true then
 (if 17 ≤ (AV.bool v :: bys X).length then
 (if cdec (Says eBytes [AV.agg (List.take 17 (AV.bool v :: bys X))] (hPortD5 l l1 l2 A B X Y v w to e s d f u c) (AV.sl (some (5, 0)) A.length 0 false) (hPortD6 l l1 l2 A B X Y v w to e s d f u c)) = true then
 (if 17 ≤ (AV.bool w :: bys Y).length then
 (if cdec (Says eBytes [AV.agg (List.take 17 (AV.bool w :: bys Y))] (hPortD7 l l1 l2 A B X Y v w to e s d f u c) (AV.sl (some (6, 0)) B.length 0 false) (hPortD8 l l1 l2 A B X Y v w to e s d f u c)) = true then
 (if cdec (Says eChange [int u16 u, AV.sl (some (5, 0)) A.length 0 false, AV.sl (some (6, 0)) B.length 0 false] (hPortD9 l l1 l2 A B X Y v w to e s d f u c) (int u16 c) (hPortD1 l l1 l2 A B X Y v w to e s d f u c)) = true then
 (if 17 ≤ (AV.bool w :: bys Y).length then
 (if (AV.agg (List.take 17 (AV.bool w :: bys Y))).beq (AV.agg (List.take 17 (AV.bool w :: bys Y))) = true then
 (if (c == 0) = true then
 (if cdec (SaysH ePut16 [AV.sl (some (4, 0)) l.length 0 false, int i64 6, int u16 65535] (hPortD9 l l1 l2 A B X Y v w to e s d f u c) (AV.bool true) (hPortD10 l l1 l2 A B X Y v w to e s d f u c)) = true then
 K (AV.sl (some (4, 0)) l.length 0 false) ((hPortD10 l l1 l2 A B X Y v w to e s d f u c))
 else none) else none) else none) else none) else none) else none) else none) else none) else none) else none) else none) else none) else none) else none) else none) else none) := by
  kernel_rfl

noncomputable def hPortE0 (p : Int) (l l1 l2 A B X Y : List UInt8) (v w : Bool) (to e s d f u c : Int) : AHeap := [cells (bys l) 1 Md.far none, cells (AV.bool v :: bys X) 17 Md.own none, cells (AV.bool w :: bys Y) 17 Md.own none]
noncomputable def hPortE1 (p : Int) (l l1 l2 A B X Y : List UInt8) (v w : Bool) (to e s d f u c : Int) : AHeap := []
noncomputable def hPortE2 (p : Int) (l l1 l2 A B X Y : List UInt8) (v w : Bool) (to e s d f u c : Int) : AHeap := (hPortE0 p l l1 l2 A B X Y v w to e s d f u c) ++ [cells [int u16 0, int u16 0, int u8 0] 3 Md.own none]
theorem nfPortE {R : Type} (p : Int) (l l1 l2 A B X Y : List UInt8) (v w : Bool) (to e s d f u c : Int) (K : AV → AHeap → Option R) :
 qrun Try.prog (tPort l l1 l2 A B (hd7N s) s u c) 100 4 [(24, .bool true)] [] 23 [.int .u8 p, slB 0 l, .int .u16 to, .agg (.bool v :: bys X), .agg (.bool w :: bys Y)] [farB l] K =
 (if cdec (Says eSegR [int u8 p, AV.sl (some (0, 0)) l.length 0 false] (hPortE0 p l l1 l2 A B X Y v w to e s d f u c) (AV.tup [AV.agg [int u16 0, int u16 0, int u8 0], int i64 s]) (hPortE1 p l l1 l2 A B X Y v w to e s d f u c)) = true then
 (if (s != 0) = true then
 K (AV.sl none 0 0 true) ((hPortE2 p l l1 l2 A B X Y v w to e s d f u c))
 else none) else none) := by
  kernel_rfl

noncomputable def hPortF0 (p : Int) (l l1 l2 A B X Y : List UInt8) (v w : Bool) (to e s d f u c : Int) : AHeap := (hPortE0 p l l1 l2 A B X Y v w to e s d f u c)
noncomputable def hPortF1 (p : Int) (l l1 l2 A B X Y : List UInt8) (v w : Bool) (to e s d f u c : Int) : AHeap := []
noncomputable def hPortF2 (p : Int) (l l1 l2 A B X Y : List UInt8) (v w : Bool) (to e s d f u c : Int) : AHeap := (hPortE0 p l l1 l2 A B X Y v w to e s d f u c) ++ [cells [int u16 e, int u16 d, int u8 f] 3 Md.own none]
theorem nfPortF {R : Type} (p : Int) (l l1 l2 A B X Y : List UInt8) (v w : Bool) (to e s d f u c : Int) (K : AV → AHeap → Option R) :
 qrun Try.prog (tPort l l1 l2 A B (hd7 e d f) s u c) 100 4 [(24, .bool false), (30, .bool true)] [] 23 [.int .u8 p, slB 0 l, .int .u16 to, .agg (.bool v :: bys X), .agg (.bool w :: bys Y)] [farB l] K =
 (if cdec (Says eSegR [int u8 p, AV.sl (some (0, 0)) l.length 0 false] (hPortF0 p l l1 l2 A B X Y v w to e s d f u c) (AV.tup [AV.agg [int u16 e, int u16 d, int u8 f], int i64 0]) (hPortF1 p l l1 l2 A B X Y v w to e s d f u c)) = true then
 (if (!boolV (some (AV.bool v)) == boolV (some (AV.bool w))) = true then
 K (AV.sl none 0 0 true) ((hPortF2 p l l1 l2 A B X Y v w to e s d f u c))
 else none) else none) := by
  kernel_rfl

noncomputable def hRPortA0 (l l1 l2 A B X Y : List UInt8) (v w : Bool) (to e s d f u c : Int) : AHeap := (hPortB0 l l1 l2 A B X Y v w to e s d f u c)
noncomputable def hRPortA1 (l l1 l2 A B X Y : List UInt8) (v w : Bool) (to e s d f u c : Int) : AHeap := []
noncomputable def hRPortA2 (l l1 l2 A B X Y : List UInt8) (v w : Bool) (to e s d f u c : Int) : AHeap := (hPortB0 l l1 l2 A B X Y v w to e s d f u c) ++ [cells [int i64 e, int i64 d, int u8 f] 3 Md.own none, ABlk.dead, cells (putCells (putCells (List.take (l.length * 1) (bys l)) 2 [int u8 (u8.wrap (to.fdiv 256))]) 3 [int u8 (u8.wrap to)]) 1 Md.own none]
noncomputable def hRPortA3 (l l1 l2 A B X Y : List UInt8) (v w : Bool) (to e s d f u c : Int) : AHeap := [cells (bys A) 1 Md.own none]
noncomputable def hRPortA4 (l l1 l2 A B X Y : List UInt8) (v w : Bool) (to e s d f u c : Int) : AHeap := (hRPortA2 l l1 l2 A B X Y v w to e s d f u c) ++ [cells (bys A) 1 Md.own none]
noncomputable def hRPortA5 (l l1 l2 A B X Y : List UInt8) (v w : Bool) (to e s d f u c : Int) : AHeap := [cells (bys B) 1 Md.own none]
noncomputable def hRPortA6 (l l1 l2 A B X Y : List UInt8) (v w : Bool) (to e s d f u c : Int) : AHeap := (hRPortA4 l l1 l2 A B X Y v w to e s d f u c) ++ [cells (bys B) 1 Md.own none]
noncomputable def hRPortA7 (l l1 l2 A B X Y : List UInt8) (v w : Bool) (to e s d f u c : Int) : AHeap := ((hRPortA6 l l1 l2 A B X Y v w to e s d f u c).set 5 (cells (putCells (putCells (putCells (putCells (List.take (l.length * 1) (bys l)) 2 [int u8 (u8.wrap (to.fdiv 256))]) 3 [int u8 (u8.wrap to)]) 16 [int u8 (u8.wrap (c.fdiv 256))]) 17 [int u8 (u8.wrap c)]) 1 Md.own none))
theorem nfRPortA {R : Type} (l l1 l2 A B X Y : List UInt8) (v w : Bool) (to e s d f u c : Int) (K : AV → AHeap → Option R) :
 qrun Try.prog (tRPort l l1 A B (rd7 e d f) s u c) 100 4 [(24, .bool false), (30, .bool false)] [] 25 [.int .u8 6, slB 0 l, .int .i64 to, .agg (.bool v :: bys X), .agg (.bool w :: bys Y)] [farB l] K =
 (if cdec (Says eRSegR [int u8 6, AV.sl (some (0, 0)) l.length 0 false] (hRPortA0 l l1 l2 A B X Y v w to e s d f u c) (AV.tup [AV.agg [int i64 e, int i64 d, int u8 f], int i64 0]) (hRPortA1 l l1 l2 A B X Y v w to e s d f u c)) = true then
 (if (!boolV (some (AV.bool v)) == boolV (some (AV.bool w))) = false then
 (if 0 + l.length * 1 ≤ (bys l).length then
 (if (2 * (0 + l.length) + 200) * 1 ≤ 281474976710656 ∧ some 1 = some 1 ∧ 0 + l.length ≤ 70368744177664 then
 (if 0 = 0 ∧ 0 = 0 ∧ (0 < l.length ∨ 0 = 0) ∧ 1 = 1 ∧ (List.take (l.length * 1) (bys l)).all AV.isCell = true then
 (if Int.ofNat 0 ≤ Int.ofNat 2 ∧ 2 < (((0 + l.length) : Nat) : Int) then
 (if 2 + [int u8 (u8.wrap (to.fdiv 256))].length ≤ (List.take (l.length * 1) (bys l)).length ∧ [int u8 (u8.wrap (to.fdiv 256))].all AV.isCell = true then
 (if Int.ofNat 0 ≤ Int.ofNat 3 ∧ 3 < (((0 + l.length) : Nat) : Int) then
 (if 3 + [int u8 (u8.wrap to)].length ≤ (putCells (List.take (l.length * 1) (bys l)) 2 [int u8 (u8.wrap (to.fdiv 256))]).length ∧ [int u8 (u8.wrap to)].all AV.isCell = true then
 (if cdec (Says eBe16 [AV.sl (some (0, 0)) l.length 0 false, int i64 16] (hRPortA2 l l1 l2 A B X Y v w to e s d f u c) (int i64 s) (hRPortA1 l l1 l2 A B X Y v w to e s d f u c)) = true then
 (if Int.ofNat 0 ≤ Int.ofNat 4 ∧ 4 ≤ (((capOf l.length 0 false) : Nat) : Int) then
 (if Int.ofNat 0 ≤ Int.ofNat 4 ∧ 4 ≤ (((capOf (0 + l.length) 0 false) : Nat) : Int) then
 (if cdec (Says eRChange [int i64 s, AV.sl (some (0, 2)) 2 (roomOf l.length 0 2 false 4 false) false, AV.sl (some (5, 2)) 2 (roomOf (0 + l.length) 0 2 false 4 false) false] (hRPortA2 l l1 l2 A B X Y v w to e s d f u c) (int i64 u) (hRPortA1 l l1 l2 A B X Y v w to e s d f u c)) = true then
 (if 17 ≤ (AV.bool v :: bys X).length then
 (if cdec (Says eBytes [AV.agg (List.take 17 (AV.bool v :: bys X))] (hRPortA2 l l1 l2 A B X Y v w to e s d f u c) (AV.sl (some (6, 0)) A.length 0 false) (hRPortA3 l l1 l2 A B X Y v w to e s d f u c)) = true then
 (if 17 ≤ (AV.bool w :: bys Y).length then
 (if cdec (Says eBytes [AV.agg (List.take 17 (AV.bool w :: bys Y))] (hRPortA4 l l1 l2 A B X Y v w to e s d f u c) (AV.sl (some (7, 0)) B.length 0 false) (hRPortA5 l l1 l2 A B X Y v w to e s d f u c)) = true then
 (if cdec (Says eRChange [int i64 u, AV.sl (some (6, 0)) A.length 0 false, AV.sl (some (7, 0)) B.length 0 false] (hRPortA6 l l1 l2 A B X Y v w to e s d f u c) (int i64 c) (hRPortA1 l l1 l2 A B X Y v w to e s d f u c)) = true then
 (if 17 ≤ (AV.bool v :: bys X).length then
 (if (AV.agg (List.take 17 (AV.bool v :: bys X))).beq (AV.agg (List.take 17 (AV.bool v :: bys X))) = true then
 (if 17 ≤ (AV.bool w :: bys Y).length then
 (if (AV.agg (List.take 17 (AV.bool w :: bys Y))).beq (AV.agg (List.take 17 (AV.bool w :: bys Y))) = true then
 (if 17 ≤ (AV.bool w :: bys Y).length then
 (if (AV.agg (List.take 17 (AV.bool w :: bys Y))).beq (AV.agg (List.take 17 (AV.bool w :: bys Y))) = true then
 (if Int.ofNat 0 ≤ Int.ofNat 16 ∧ 16 < (((0 + l.length) : Nat) : Int) then
 (if 16 + [int u8 (u8.wrap (c.fdiv 256))].length ≤ (putCells (putCells (List.take (l.length * 1) (bys l)) 2 [int u8 (u8.wrap (to.fdiv 256))]) 3 [int u8 (u8.wrap to)]).length ∧ [int u8 (u8.wrap (c.fdiv 256))].all AV.isCell = true then
 (if Int.ofNat 0 ≤ Int.ofNat 17 ∧ 17 < (((0 + l.length) : Nat) : Int) then
 (if 17 + [int u8 (u8.wrap c)].length ≤ (putCells (putCells (putCells (List.take (l.length * 1) (bys l)) 2 [int u8 (u8.wrap (to.fdiv 256))]) 3 [int u8 (u8.wrap to)]) 16 [int u8 (u8.wrap (c.fdiv 256))]).length ∧ [int u8 (u8.wrap c)].all AV.isCell = true then
 K (AV.sl (some (5, 0)) (0 + l.length) 0 false) ((hRPortA7 l l1 l2 A B X Y v w to e s d f u c))
 else none) else none) else none) else none) else none) else none) else none) else none) else none) else none) else none) else none) else none) else none) else none) else none) else none) else none) else none) else none) else none) else none) else none) else none) else none) else none) else none) else none) := by
  kernel_rfl

noncomputable def hRPortB0 (l l1 l2 A B X Y : List UInt8) (v w : Bool) (to e s d f u c : Int) : AHeap := (hPortC0 l l1 l2 A B X Y v w to e s d f u c)
noncomputable def hRPortB1 (l l1 l2 A B X Y : List UInt8) (v w : Bool) (to e s d f u c : Int) : AHeap := []
noncomputable def hRPortB2 (l l1 l2 A B X Y : List UInt8) (v w : Bool) (to e s d f u c : Int) : AHeap := (hRPortA2 l l1 l2 A B X Y v w to e s d f u c)
noncomputable def hRPortB3 (l l1 l2 A B X Y : List UInt8) (v w : Bool) (to e s d f u c : Int) : AHeap := [cells (bys A) 1 Md.own none]
noncomputable def hRPortB4 (l l1 l2 A B X Y : List UInt8) (v w : Bool) (to e s d f u c : Int) : AHeap := (hRPortA4 l l1 l2 A B X Y v w to e s d f u c)
noncomputable def hRPortB5 (l l1 l2 A B X Y : List UInt8) (v w : Bool) (to e s d f u c : Int) : AHeap := [cells (bys B) 1 Md.own none]
noncomputable def hRPortB6 (l l1 l2 A B X Y : List UInt8) (v w : Bool) (to e s d f u c : Int) : AHeap := (hRPortA6 l l1 l2 A B X Y v w to e s d f u c)
noncomputable def hRPortB7 (l l1 l2 A B X Y : List UInt8) (v w : Bool) (to e s d f u c : Int) : AHeap := ((hRPortA6 l l1 l2 A B X Y v w to e s d f u c).set 5 (cells (putCells (putCells (putCells (putCells (List.take (l.length * 1) (bys l)) 2 [int u8 (u8.wrap (to.fdiv 256))]) 3 [int u8 (u8.wrap to)]) 6 [int u8 (u8.wrap (c.fdiv 256))]) 7 [int u8 (u8.wrap c)]) 1 Md.own none))
theorem nfRPortB {R : Type} (l l1 l2 A B X Y : List UInt8) (v w : Bool) (to e s d f u c : Int) (K : AV → AHeap → Option R) :
 qrun Try.prog (tRPort l l1 A B (rd7 e d f) s u c) 100 4 [(24, .bool false), (30, .bool false), (47, .bool false), (65, .bool false)] [] 25 [.int .u8 17, slB 0 l, .int .i64 to, .agg (.bool v :: bys X), .agg (.bool w :: bys Y)] [farB l] K =
 (if cdec (Says eRSegR [int u8 17, AV.sl (some (0, 0)) l.length 0 false] (hRPortB0 l l1 l2 A B X Y v w to e s d f u c) (AV.tup [AV.agg [int i64 e, int i64 d, int u8 f], int i64 0]) (hRPortB1 l l1 l2 A B X Y v w to e s d f u c)) = true then
 (if (!boolV (some (AV.bool v)) == boolV (some (AV.bool w))) = false then
 (if 0 + l.length * 1 ≤ (bys l).length then
 (if (2 * (0 + l.length) + 200) * 1 ≤ 281474976710656 ∧ some 1 = some 1 ∧ 0 + l.length ≤ 70368744177664 then
 (if 0 = 0 ∧ 0 = 0 ∧ (0 < l.length ∨ 0 = 0) ∧ 1 = 1 ∧ (List.take (l.length * 1) (bys l)).all AV.isCell = true then
 (if Int.ofNat 0 ≤ Int.ofNat 2 ∧ 2 < (((0 + l.length) : Nat) : Int) then
 (if 2 + [int u8 (u8.wrap (to.fdiv 256))].length ≤ (List.take (l.length * 1) (bys l)).length ∧ [int u8 (u8.wrap (to.fdiv 256))].all AV.isCell = true then
 (if Int.ofNat 0 ≤ Int.ofNat 3 ∧ 3 < (((0 + l.length) : Nat) : Int) then
 (if 3 + [int u8 (u8.wrap to)].length ≤ (putCells (List.take (l.length * 1) (bys l)) 2 [int u8 (u8.wrap (to.fdiv 256))]).length ∧ [int u8 (u8.wrap to)].all AV.isCell = true then
 (if cdec (Says eBe16 [AV.sl (some (0, 0)) l.length 0 false, int i64 6] (hRPortB2 l l1 l2 A B X Y v w to e s d f u c) (int i64 s) (hRPortB1 l l1 l2 A B X Y v w to e s d f u c)) = true then
 (if (s == 0) = false then
 (if Int.ofNat 0 ≤ Int.ofNat 4 ∧ 4 ≤ (((capOf l.length 0 false) : Nat) : Int) then
 (if Int.ofNat 0 ≤ Int.ofNat 4 ∧ 4 ≤ (((capOf (0 + l.length) 0 false) : Nat) : Int) then
 (if cdec (Says eRChange [int i64 s, AV.sl (some (0, 2)) 2 (roomOf l.length 0 2 false 4 false) false, AV.sl (some (5, 2)) 2 (roomOf (0 + l.length) 0 2 false 4 false) false] (hRPortB2 l l1 l2 A B X Y v w to e s d f u c) (int i64 u) (hRPortB1 l l1 l2 A B X Y v w to e s d f u c)) = true then
 (if 17 ≤ (AV.bool v :: bys X).length then
 (if cdec (Says eBytes [AV.agg (List.take 17 (AV.bool v :: bys X))] (hRPortB2 l l1 l2 A B X Y v w to e s d f u c) (AV.sl (some (6, 0)) A.length 0 false) (hRPortB3 l l1 l2 A B X Y v w to e s d f u c)) = true then
 (if 17 ≤ (AV.bool w :: bys Y).length then
 (if cdec (Says eBytes [AV.agg (List.take 17 (AV.bool w :: bys Y))] (hRPortB4 l l1 l2 A B X Y v w to e s d f u c) (AV.sl (some (7, 0)) B.length 0 false) (hRPortB5 l l1 l2 A B X Y v w to e s d f u c)) = true then
 (if cdec (Says eRChange [int i64 u, AV.sl (some (6, 0)) A.length 0 false, AV.sl (some (7, 0)) B.length 0 false] (hRPortB6 l l1 l2 A B X Y v w to e s d f u c) (int i64 c) (hRPortB1 l l1 l2 A B X Y v w to e s d f u c)) = true then
 (if 17 ≤ (AV.bool v :: bys X).length then
 (if (AV.agg (List.take 17 (AV.bool v :: bys X))).beq (AV.agg (List.take 17 (AV.bool v :: bys X))) = true then
 (if 17 ≤ (AV.bool w :: bys Y).length then
 (if (AV.agg (List.take 17 (AV.bool w :: bys Y))).beq (AV.agg (List.take 17 (AV.bool w :: bys Y))) = true then
 (if 17 ≤ (AV.bool w :: bys Y).length then
 (if (AV.agg (List.take 17 (AV.bool w :: bys Y))).beq (AV.agg (List.take 17 (AV.bool w :: bys Y))) = true then
 (if (c == 0) = false then
 (if Int.ofNat 0 ≤ Int.ofNat 6 ∧ 6 < (((0 + l.length) : Nat) : Int) then
 (if 6 + [int u8 (u8.wrap (c.fdiv 256))].length ≤ (putCells (putCells (List.take (l.length * 1) (bys l)) 2 [int u8 (u8.wrap (to.fdiv 256))]) 3 [int u8 (u8.wrap to)]).length ∧ [int u8 (u8.wrap (c.fdiv 256))].all AV.isCell = true then
 (if Int.ofNat 0 ≤ Int.ofNat 7 ∧ 7 < (((0 + l.length) : Nat) : Int) then
 (if 7 + [int u8 (u8.wrap c)].length ≤ (putCells (putCells (putCells (List.take (l.length * 1) (bys l)) 2 [int u8 (u8.wrap (to.fdiv 256))]) 3 [int u8 (u8.wrap to)]) 6 [int u8 (u8.wrap (c.fdiv 256))]).length ∧ [int u8 (u8.wrap c)].all AV.isCell = true then
 K (AV.sl (some (5, 0)) (0 + l.length) 0 false) ((hRPortB7 l l1 l2 A B X Y v w to e s d f u c))
 else none) else none) else none) else none) else none) else none) else none) else none) else none) else none) else none) else none) else none) else none) else none) else none) else none) else none) else none) else none) else none) else none) else none) else none) else none) else none) else none) else none) else none) else none) := by
  kernel_rfl

noncomputable def hRPortC0 (l l1 l2 A B X Y : List UInt8) (v w : Bool) (to e s d f u c : Int) : AHeap := (hPortC0 l l1 l2 A B X Y v w to e s d f u c)
noncomputable def hRPortC1 (l l1 l2 A B X Y : List UInt8) (v w : Bool) (to e s d f u c : Int) : AHeap := []
noncomputable def hRPortC2 (l l1 l2 A B X Y : List UInt8) (v w : Bool) (to e s d f u c : Int) : AHeap := (hRPortA2 l l1 l2 A B X Y v w to e s d f u c)
theorem nfRPortC {R : Type} (l l1 l2 A B X Y : List UInt8) (v w : Bool) (to e s d f u c : Int) (K : AV → AHeap → Option R) :
 qrun Try.prog (tRPort l l1 A B (rd7 e d f) s u c) 100 4 [(24, .bool false), (30, .bool false), (47, .bool true)] [] 25 [.int .u8 17, slB 0 l, .int .i64 to, .agg (.bool v :: bys X), .agg (.bool w :: bys Y)] [farB l] K =
 (if cdec (Says eRSegR [int u8 17, AV.sl (some (0, 0)) l.length 0 false] (hRPortC0 l l1 l2 A B X Y v w to e s d f u c) (AV.tup [AV.agg [int i64 e, int i64 d, int u8 f], int i64 0]) (hRPortC1 l l1 l2 A B X Y v w to e s d f u c)) = true then
 (if (!boolV (some (AV.bool v)) == boolV (some (AV.bool w))) = false then
 (if 0 + l.length * 1 ≤ (bys l).length then
 (if (2 * (0 + l.length) + 200) * 1 ≤ 281474976710656 ∧ some 1 = some 1 ∧ 0 + l.length ≤ 70368744177664 then
 (if 0 = 0 ∧ 0 = 0 ∧ (0 < l.length ∨ 0 = 0) ∧ 1 = 1 ∧ (List.take (l.length * 1) (bys l)).all AV.isCell = true then
 (if Int.ofNat 0 ≤ Int.ofNat 2 ∧ 2 < (((0 + l.length) : Nat) : Int) then
 (if 2 + [int u8 (u8.wrap (to.fdiv 256))].length ≤ (List.take (l.length * 1) (bys l)).length ∧ [int u8 (u8.wrap (to.fdiv 256))].all AV.isCell = true then
 (if Int.ofNat 0 ≤ Int.ofNat 3 ∧ 3 < (((0 + l.length) : Nat) : Int) then
 (if 3 + [int u8 (u8.wrap to)].length ≤ (putCells (List.take (l.length * 1) (bys l)) 2 [int u8 (u8.wrap (to.fdiv 256))]).length ∧ [int u8 (u8.wrap to)].all AV.isCell = true then
 (if cdec (Says eBe16 [AV.sl (some (0, 0)) l.length 0 false, int i64 6] (hRPortC2 l l1 l2 A B X Y v w to e s d f u c) (int i64 s) (hRPortC1 l l1 l2 A B X Y v w to e s d f u c)) = true then
 (if (s == 0) = true then
 K (AV.sl (some (5, 0)) (0 + l.length) 0 false) ((hRPortC2 l l1 l2 A B X Y v w to e s d f u c))
 else none) else none) else none) else none) else none) else none) else none) else none) else none) else none) else none) := by
  kernel_rfl

noncomputable def hRPortD0 (l l1 l2 A B X Y : List UInt8) (v w : Bool) (to e s d f u c : Int) : AHeap := (hPortD0 l l1 l2 A B X Y v w to e s d f u c)
noncomputable def hRPortD1 (l l1 l2 A B X Y : List UInt8) (v w : Bool) (to e s d f u c : Int) : AHeap := []
noncomputable def hRPortD2 (l l1 l2 A B X Y : List UInt8) (v w : Bool) (to e s d f u c : Int) : AHeap := (hRPortA2 l l1 l2 A B X Y v w to e s d f u c)
noncomputable def hRPortD3 (l l1 l2 A B X Y : List UInt8) (v w : Bool) (to e s d f u c : Int) : AHeap := [cells (bys A) 1 Md.own none]
noncomputable def hRPortD4 (l l1 l2 A B X Y : List UInt8) (v w : Bool) (to e s d f u c : Int) : AHeap := (hRPortA4 l l1 l2 A B X Y v w to e s d f u c)
noncomputable def hRPortD5 (l l1 l2 A B X Y : List UInt8) (v w : Bool) (to e s d f u c : Int) : AHeap := [cells (bys B) 1 Md.own none]
noncomputable def hRPortD6 (l l1 l2 A B X Y : List UInt8) (v w : Bool) (to e s d f u c : Int) : AHeap := (hRPortA6 l l1 l2 A B X Y v w to e s d f u c)
noncomputable def hRPortD7 (l l1 l2 A B X Y : List UInt8) (v w : Bool) (to e s d f u c : Int) : AHeap := ((hRPortA6 l l1 l2 A B X Y v w to e s d f u c).set 5 (cells (putCells (putCells (putCells (putCells (List.take (l.length * 1) (bys l)) 2 [int u8 (u8.wrap (to.fdiv 256))]) 3 [int u8 (u8.wrap to)]) 6 [int u8 255]) 7 [int u8 255]) 1 Md.own none))
theorem nfRPortD {R : Type} (l l1 l2 A B X Y : List UInt8) (v w : Bool) (to e s d f u c : Int) (K : AV → AHeap → Option R) :
 qrun Try.prog (tRPort l l1 A B (rd7 e d f) s u c) 100 4 [(24, .bool false), (30, .bool false), (47, .bool false), (65, .bool true)] [] 25 [.int .u8 17, slB 0 l, .int .i64 to, .agg (.bool v :: bys X), .agg (.bool w :: bys Y)] [farB l] K =
 (if cdec (Says eRSegR [int u8 17, AV.sl (some (0, 0)) l.length 0 false] (hRPortD0 l l1 l2 A B X Y v w to e s d f u c) (AV.tup [AV.agg [int i64 e, int i64 d, int u8 f], int i64 0]) (hRPortD1 l l1 l2 A B X Y v w to e s d f u c)) = true then
 (if (!boolV (some (AV.bool v)) == boolV (some (AV.bool w))) = false then
 (if 0 + l.length * 1 ≤ (bys l).length then
 (if (2 * (0 + l.length) + 200) * 1 ≤ 281474976710656 ∧ some 1 = some 1 ∧ 0 + l.length ≤ 70368744177664 then
 (if 0 = 0 ∧ 0 = 0 ∧ (0 < l.length ∨ 0 = 0) ∧ 1 = 1 ∧ (List.take (l.length * 1) (bys l)).all AV.isCell = true then
 (if Int.ofNat 0 ≤ Int.ofNat 2 ∧ 2 < (((0 + l.length) : Nat) : Int) then
 (if 2 + [int u8 (u8.wrap (to.fdiv 256))].length ≤ (List.take (l.length * 1) (bys l)).length ∧ [int u8 (u8.wrap (to.fdiv 256))].all AV.isCell = true then
 (if Int.ofNat 0 ≤ Int.ofNat 3 ∧ 3 < (((0 + l.length) : Nat) : Int) then
 (if 3 + [int u8 (u8.wrap to)].length ≤ (putCells (List.take (l.length * 1) (bys l)) 2 [int u8 (u8.wrap (to.fdiv 256))]).length ∧ [int u8 (u8.wrap to)].all AV.isCell = true then
 (if cdec (Says eBe16 [AV.sl (some (0, 0)) l.length 0 false, int i64 6] (hRPortD2 l l1 l2 A B X Y v w to e s d f u c) (int i64 s) (hRPortD1 l l1 l2 A B X Y v w to e s d f u c)) = true then
 (if (s == 0) = false then
 (if Int.ofNat 0 ≤ Int.ofNat 4 ∧ 4 ≤ (((capOf l.length 0 false) : Nat) : Int) then
 (if Int.ofNat 0 ≤ Int.ofNat 4 ∧ 4 ≤ (((capOf (0 + l.length) 0 false) : Nat) : Int) then
 (if cdec (Says eRChange [int i64 s, AV.sl (some (0, 2)) 2 (roomOf l.length 0 2 false 4 false) false, AV.sl (some (5, 2)) 2 (roomOf (0 + l.length) 0 2 false 4 false) false] (hRPortD2 l l1 l2 A B X Y v w to e s d f u c) (int i64 u) (hRPortD1 l l1 l2 A B X Y v w to e s d f u c)) = true then
 (if 17 ≤ (AV.bool v :: bys X).length then
 (if cdec (Says eBytes [AV.agg (List.take 17 (AV.bool v :: bys X))] (hRPortD2 l l1 l2 A B X Y v w to e s d f u c) (AV.sl (some (6, 0)) A.length 0 false) (hRPortD3 l l1 l2 A B X Y v w to e s d f u c)) = true then
 (if 17 ≤ (AV.bool w :: bys Y).length then
 (if cdec (Says eBytes [AV.agg (List.take 17 (AV.bool w :: bys Y))] (hRPortD4 l l1 l2 A B X Y v w to e s d f u c) (AV.sl (some (7, 0)) B.length 0 false) (hRPortD5 l l1 l2 A B X Y v w to e s d f u c)) = true then
 (if cdec (Says eRChange [int i64 u, AV.sl (some (6, 0)) A.length 0 false, AV.sl (some (7, 0)) B.length 0 false] (hRPortD6 l l1 l2 A B X Y v w to e s d f u c) (int i64 c) (hRPortD1 l l1 l2 A B X Y v w to e s d f u c)) = true then
 (if 17 ≤ (AV.bool v :: bys X).length then
 (if (AV.agg (List.take 17 (AV.bool v :: bys X))).beq (AV.agg (List.take 17 (AV.bool v :: bys X))) = true then
 (if 17 ≤ (AV.bool w :: bys Y).length then
 (if (AV.agg (List.take 17 (AV.bool w :: bys Y))).beq (AV.agg (List.take 17 (AV.bool w :: bys Y))) = true then
 (if 17 ≤ (AV.bool w :: bys Y).length then
 (if (AV.agg (List.take 17 (AV.bool w :: bys Y))).beq (AV.agg (List.take 17 (AV.bool w :: bys Y))) = true then
 (if (c == 0) = true then
 (if Int.ofNat 0 ≤ Int.ofNat 6 ∧ 6 < (((0 + l.length) : Nat) : Int) then
 (if 6 + [int u8 255].length ≤ (putCells (putCells (List.take (l.length * 1) (bys l)) 2 [int u8 (u8.wrap (to.fdiv 256))]) 3 [int u8 (u8.wrap to)]).length ∧ [int u8 255].all AV.isCell = true then
 (if Int.ofNat 0 ≤ Int.ofNat 7 ∧ 7 < (((0 + l.length) : Nat) : Int) then
 (if 7 + [int u8 255].length ≤ (putCells (putCells (putCells (List.take (l.length * 1) (bys l)) 2 [int u8 (u8.wrap (to.fdiv 256))]) 3 [int u8 (u8.wrap to)]) 6 [int u8 255]).length ∧ [int u8 255].all AV.isCell = true then
 K (AV.sl (some (5, 0)) (0 + l.length) 0 false) ((hRPortD7 l l1 l2 A B X Y v w to e s d f u c))
 else none) else none) else none) else none) else none) else none) else none) else none) else none) else none) else none) else none) else none) else none) else none) else none) else none) else none) else none) else none) else none) else none) else none) else none) else none) else none) else none) else none) else none) else none) := by
  kernel_rfl

noncomputable def hRPortE0 (p : Int) (l l1 l2 A B X Y : List UInt8) (v w : Bool) (to e s d f u c : Int) : AHeap := (hPortE0 p l l1 l2 A B X Y v w to e s d f u c)
noncomputable def hRPortE1 (p : Int) (l l1 l2 A B X Y : List UInt8) (v w : Bool) (to e s d f u c : Int) : AHeap := []
noncomputable def hRPortE2 (p : Int) (l l1 l2 A B X Y : List UInt8) (v w : Bool) (to e s d f u c : Int) : AHeap := (hPortE0 p l l1 l2 A B X Y v w to e s d f u c) ++ [cells [int i64 0, int i64 0, int u8 0] 3 Md.own none]
theorem nfRPortE {R : Type} (p : Int) (l l1 l2 A B X Y : List UInt8) (v w : Bool) (to e s d f u c : Int) (K : AV → AHeap → Option R) :
 qrun Try.prog (tRPort l l1 A B (rd7N s) s u c) 100 4 [(24, .bool true)] [] 25 [.int .u8 p, slB 0 l, .int .i64 to, .agg (.bool v :: bys X), .agg (.bool w :: bys Y)] [farB l] K =
 (if cdec (Says eRSegR [int u8 p, AV.sl (some (0, 0)) l.length 0 false] (hRPortE0 p l l1 l2 A B X Y v w to e s d f u c) (AV.tup [AV.agg [int i64 0, int i64 0, int u8 0], int i64 s]) (hRPortE1 p l l1 l2 A B X Y v w to e s d f u c)) = true then
 (if (s != 0) = true then
 K (AV.sl none 0 0 true) ((hRPortE2 p l l1 l2 A B X Y v w to e s d f u c))
 else none) else none) := by
  kernel_rfl

noncomputable def hRPortF0 (p : Int) (l l1 l2 A B X Y : List UInt8) (v w : Bool) (to e s d f u c : Int) : AHeap := (hPortE0 p l l1 l2 A B X Y v w to e s d f u c)
noncomputable def hRPortF1 (p : Int) (l l1 l2 A B X Y : List UInt8) (v w : Bool) (to e s d f u c : Int) : AHeap := []
noncomputable def hRPortF2 (p : Int) (l l1 l2 A B X Y : List UInt8) (v w : Bool) (to e s d f u c : Int) : AHeap := (hPortE0 p l l1 l2 A B X Y v w to e s d f u c) ++ [cells [int i64 e, int i64 d, int u8 f] 3 Md.own none]
theorem nfRPortF {R : Type} (p : Int) (l l1 l2 A B X Y : List UInt8) (v w : Bool) (to e s d f u c : Int) (K : AV → AHeap → Option R) :
 qrun Try.prog (tRPort l l1 A B (rd7 e d f) s u c) 100 4 [(24, .bool false), (30, .bool true)] [] 25 [.int .u8 p, slB 0 l, .int .i64 to, .agg (.bool v :: bys X), .agg (.bool w :: bys Y)] [farB l] K =
 (if cdec (Says eRSegR [int u8 p, AV.sl (some (0, 0)) l.length 0 false] (hRPortF0 p l l1 l2 A B X Y v w to e s d f u c) (AV.tup [AV.agg [int i64 e, int i64 d, int u8 f], int i64 0]) (hRPortF1 p l l1 l2 A B X Y v w to e s d f u c)) = true then
 (if (!boolV (some (AV.bool v)) == boolV (some (AV.bool w))) = true then
 K (AV.sl none 0 0 true) ((hRPortF2 p l l1 l2 A B X Y v w to e s d f u c))
 else none) else none) := by
  kernel_rfl


end Go.Proofs.Ytnchnjkakddhlaa.L
