/- rewrite.To of any bytes: what the kernel makes of it. -/
import Derived.Test.YtnchnjkakddhlaaToW
import Derived.Test.YtnchnjkakddhlaaPVal
set_option autoImplicit false
set_option maxRecDepth 100000
set_option linter.unusedVariables false
set_option linter.unusedSimpArgs false
namespace Go.Proofs.Ytnchnjkakddhlaa.L
open Go Go.Abs
open Go.IntKind (u8 u16 u32 u64 i64)
open Go.Abs.AV (int)
open Go.Abs.ABlk (cells)

def adF (w : Bool) (x : Nat → Int) : List AV := adrV w (x 0) (x 1) (x 2) (x 3) (x 4) (x 5) (x 6) (x 7) (x 8) (x 9) (x 10) (x 11) (x 12) (x 13) (x 14) (x 15)
theorem adrWf_fn {cs : List AV} (h : adrWf cs = true) : ∃ w x, cs = adF w x := by
  obtain ⟨w, x0, x1, x2, x3, x4, x5, x6, x7, x8, x9, x10, x11, x12, x13, x14, x15, rfl, _⟩ := adrWf_lit h
  exact ⟨w, fun i => [x0, x1, x2, x3, x4, x5, x6, x7, x8, x9, x10, x11, x12, x13, x14, x15].getD i 0, rfl⟩
def adP (w : Bool) (x : Nat → Int) (pt : Int) : List AV := adF w x ++ [.int .u16 pt]
def vwG (v : Bool) (A G E p : Int) (wx wy : Bool) (x y : Nat → Int) (sp dp fl : Int) : List AV := viewOf v A G E p (adF wx x) (adF wy y) sp dp fl
noncomputable def tTg (l D S : List UInt8) (v : AV) : Tbl := [(18, entF (eSay eFrR [(2, v, [])])), (19, entF eValD), (22, entF (eSay eClone [(3, slB 3 l, [ownB l]), (4, slB 4 l, [ownB l]), (5, slB 5 l, [ownB l]), (6, slB 6 l, [ownB l]), (7, slB 7 l, [ownB l]), (8, slB 8 l, [ownB l])])), (20, entF (eSay eDst4 [(4, slB 4 D, [ownB D]), (5, slB 5 D, [ownB D]), (6, slB 6 D, [ownB D]), (7, slB 7 D, [ownB D]), (8, slB 8 D, [ownB D]), (9, slB 9 D, [ownB D])])), (21, entF (eSay eDst6 [(4, slB 4 D, [ownB D]), (5, slB 5 D, [ownB D]), (6, slB 6 D, [ownB D]), (7, slB 7 D, [ownB D]), (8, slB 8 D, [ownB D]), (9, slB 9 D, [ownB D])])),
  (23, entF (eSay ePort [(5, slB 5 S, [ownB S]), (6, slB 6 S, [ownB S]), (7, slB 7 S, [ownB S]), (8, slB 8 S, [ownB S]), (9, slB 9 S, [ownB S]), (10, slB 10 S, [ownB S]), (11, slB 11 S, [ownB S])]))]
theorem tTgOk (l D S : List UInt8) (v : AV) : ∀ f E, (tTg l D S v).find f = some E → SoundE Try.prog f E := find_cons (sSay sPRead _) (find_cons sPVal (find_cons (sSay sClone _) (find_cons (sSay sDst4 _) (find_cons (sSay sDst6 _) (find_cons (sSay sPort _) (find_nil _))))))
noncomputable def hTgFF0 (l D S : List UInt8) (b c : UInt8) (w wx wy : Bool) (A G E p sp dp fl pt : Int) (x y z : Nat → Int) : AHeap := [cells (bys l) 1 Md.far none, cells (adP w z pt) 18 Md.own none]
noncomputable def hTgFF1 (l D S : List UInt8) (b c : UInt8) (w wx wy : Bool) (A G E p sp dp fl pt : Int) (x y z : Nat → Int) : AHeap := []
noncomputable def hTgFF2 (l D S : List UInt8) (b c : UInt8) (w wx wy : Bool) (A G E p sp dp fl pt : Int) (x y z : Nat → Int) : AHeap := [cells (bys l) 1 Md.far none, cells (adP w z pt) 18 Md.own none, cells (vwG false A G E p wx wy x y sp dp fl) 42 Md.own none]
noncomputable def hTgFF3 (l D S : List UInt8) (b c : UInt8) (w wx wy : Bool) (A G E p sp dp fl pt : Int) (x y z : Nat → Int) : AHeap := [cells (bys l) 1 Md.own none]
noncomputable def hTgFF4 (l D S : List UInt8) (b c : UInt8) (w wx wy : Bool) (A G E p sp dp fl pt : Int) (x y z : Nat → Int) : AHeap := (hTgFF2 l D S b c w wx wy A G E p sp dp fl pt x y z) ++ [cells (bys l) 1 Md.own none]
noncomputable def hTgFF5 (l D S : List UInt8) (b c : UInt8) (w wx wy : Bool) (A G E p sp dp fl pt : Int) (x y z : Nat → Int) : AHeap := [cells (bys (b :: D)) 1 Md.own none]
noncomputable def hTgFF6 (l D S : List UInt8) (b c : UInt8) (w wx wy : Bool) (A G E p sp dp fl pt : Int) (x y z : Nat → Int) : AHeap := (hTgFF4 l D S b c w wx wy A G E p sp dp fl pt x y z) ++ [cells (bys (b :: D)) 1 Md.own none]
noncomputable def hTgFF7 (l D S : List UInt8) (b c : UInt8) (w wx wy : Bool) (A G E p sp dp fl pt : Int) (x y z : Nat → Int) : AHeap := [cells (bys (c :: S)) 1 Md.own none]
noncomputable def hTgFF8 (l D S : List UInt8) (b c : UInt8) (w wx wy : Bool) (A G E p sp dp fl pt : Int) (x y z : Nat → Int) : AHeap := (hTgFF6 l D S b c w wx wy A G E p sp dp fl pt x y z) ++ [cells (bys (c :: S)) 1 Md.own none]
noncomputable def hTgFF9 (l D S : List UInt8) (b c : UInt8) (w wx wy : Bool) (A G E p sp dp fl pt : Int) (x y z : Nat → Int) : AHeap := ((hTgFF8 l D S b c w wx wy A G E p sp dp fl pt x y z).set 3 (cells (putCells (bys l) (0 + (intV (some (int i64 G))).toNat * 1) (List.take ((c :: S).length.min (l.length - (intV (some (int i64 G))).toNat) * 1) (bys (c :: S)))) 1 Md.own none))
noncomputable def hTgFF10 (l D S : List UInt8) (b c : UInt8) (w wx wy : Bool) (A G E p sp dp fl pt : Int) (x y z : Nat → Int) : AHeap := ((hTgFF6 l D S b c w wx wy A G E p sp dp fl pt x y z).set 3 (cells (putCells (bys l) (0 + (intV (some (int i64 A))).toNat * 1) (List.take ((b :: D).length.min (l.length - (intV (some (int i64 A))).toNat) * 1) (bys (b :: D)))) 1 Md.own none))
noncomputable def hTgFF11 (l D S : List UInt8) (b c : UInt8) (w wx wy : Bool) (A G E p sp dp fl pt : Int) (x y z : Nat → Int) : AHeap := (hTgFF10 l D S b c w wx wy A G E p sp dp fl pt x y z) ++ [cells (bys (c :: S)) 1 Md.own none]
noncomputable def hTgFF12 (l D S : List UInt8) (b c : UInt8) (w wx wy : Bool) (A G E p sp dp fl pt : Int) (x y z : Nat → Int) : AHeap := ((hTgFF8 l D S b c w wx wy A G E p sp dp fl pt x y z).set 3 (cells (putCells (putCells (bys l) (0 + (intV (some (int i64 A))).toNat * 1) (List.take ((b :: D).length.min (l.length - (intV (some (int i64 A))).toNat) * 1) (bys (b :: D)))) (0 + (intV (some (int i64 G))).toNat * 1) (List.take ((c :: S).length.min (l.length - (intV (some (int i64 G))).toNat) * 1) (bys (c :: S)))) 1 Md.own none))
theorem nfTgFF {R : Type} (l D S : List UInt8) (b c : UInt8) (w wx wy : Bool) (A G E p sp dp fl pt : Int) (x y z : Nat → Int) (K : AV → AHeap → Option R) :
 qrun Try.prog (tTg l (b :: D) (c :: S) (.tup [.agg (viewOf false A G E p (adF wx x) (adF wy y) sp dp fl), .int .i64 0])) 100 5 [(34, .bool false)] [] 8 [slB 0 l, .agg (adF w z ++ [.int .u16 pt])] [farB l] K =
 (if cdec (Says eFrR [AV.sl (some (0, 0)) l.length 0 false] (hTgFF0 l D S b c w wx wy A G E p sp dp fl pt x y z) (AV.tup [AV.agg (vwG false A G E p wx wy x y sp dp fl), int i64 0]) (hTgFF1 l D S b c w wx wy A G E p sp dp fl pt x y z)) = true then
 (if (!boolV (some (AV.bool w)) == boolV (some (AV.bool false))) = true then
 K (AV.tup [AV.sl none 0 0 true, AV.bool false]) ((hTgFF2 l D S b c w wx wy A G E p sp dp fl pt x y z))
 else (if cdec (IsAdr (adF w z)) = true then
 (if (!opq (adrValid (adF w z))) = true then
 K (AV.tup [AV.sl none 0 0 true, AV.bool false]) ((hTgFF2 l D S b c w wx wy A G E p sp dp fl pt x y z))
 else (if (intV (some (int u16 pt)) == 0) = false then
 (if cdec (Says eClone [AV.sl (some (0, 0)) l.length 0 false] (hTgFF2 l D S b c w wx wy A G E p sp dp fl pt x y z) (AV.sl (some (3, 0)) l.length 0 false) (hTgFF3 l D S b c w wx wy A G E p sp dp fl pt x y z)) = true then
 (if 0 ≤ intV (some (int i64 A)) ∧ intV (some (int i64 A)) ≤ (l.length : Int) then
 (if 0 ≤ intV (some (int i64 E)) ∧ intV (some (int i64 E)) ≤ (((capOf l.length 0 false) : Nat) : Int) then
 (if 0 ≤ intV (some (int i64 A)) ∧ intV (some (int i64 A)) ≤ intV (some (int i64 E)) then
 (if cdec (Says eDst4 [AV.sl (some (0, 0 + (intV (some (int i64 A))).toNat * 1)) ((intV (some (int i64 E))).toNat - (intV (some (int i64 A))).toNat) (roomOf l.length 0 (intV (some (int i64 A))).toNat (some (intV (some (int i64 E)))).isNone (intV (some (int i64 E))).toNat false) false, AV.agg (adF w z)] (hTgFF4 l D S b c w wx wy A G E p sp dp fl pt x y z) (AV.sl (some (4, 0)) (b :: D).length 0 false) (hTgFF5 l D S b c w wx wy A G E p sp dp fl pt x y z)) = true then
 (if 0 + (b :: D).length.min (l.length - (intV (some (int i64 A))).toNat) * 1 ≤ (bys (b :: D)).length then
 (if (List.take ((b :: D).length.min (l.length - (intV (some (int i64 A))).toNat) * 1) (bys (b :: D))).length = 0 then
 (if (int i64 (intV (some (int i64 A)))).beq (int i64 (intV (some (int i64 A)))) = true then
 (if 0 ≤ intV (some (int i64 G)) ∧ intV (some (int i64 G)) ≤ (l.length : Int) then
 (if 0 ≤ intV (some (int i64 E)) ∧ intV (some (int i64 E)) ≤ (((capOf l.length 0 false) : Nat) : Int) then
 (if 0 ≤ intV (some (int i64 G)) ∧ intV (some (int i64 G)) ≤ intV (some (int i64 E)) then
 (if cdec (Says ePort [b8 (intV (some (b8 p))), AV.sl (some (0, 0 + (intV (some (int i64 G))).toNat * 1)) ((intV (some (int i64 E))).toNat - (intV (some (int i64 G))).toNat) (roomOf l.length 0 (intV (some (int i64 G))).toNat (some (intV (some (int i64 E)))).isNone (intV (some (int i64 E))).toNat false) false, int u16 (intV (some (int u16 pt))), AV.agg (adF wy y), AV.agg (adF w z)] (hTgFF6 l D S b c w wx wy A G E p sp dp fl pt x y z) (AV.sl (some (5, 0)) (c :: S).length 0 false) (hTgFF7 l D S b c w wx wy A G E p sp dp fl pt x y z)) = true then
 (if 0 + (c :: S).length.min (l.length - (intV (some (int i64 G))).toNat) * 1 ≤ (bys (c :: S)).length then
 (if (List.take ((c :: S).length.min (l.length - (intV (some (int i64 G))).toNat) * 1) (bys (c :: S))).length = 0 then
 (if (int i64 (intV (some (int i64 G)))).beq (int i64 (intV (some (int i64 G)))) = true then
 K (AV.tup [AV.sl (some (3, 0)) l.length 0 false, AV.bool true]) ((hTgFF8 l D S b c w wx wy A G E p sp dp fl pt x y z))
 else none)
 else (if 0 < l.length - (intV (some (int i64 G))).toNat then
 (if 0 + (intV (some (int i64 G))).toNat * 1 + (List.take ((c :: S).length.min (l.length - (intV (some (int i64 G))).toNat) * 1) (bys (c :: S))).length ≤ (bys l).length ∧ (List.take ((c :: S).length.min (l.length - (intV (some (int i64 G))).toNat) * 1) (bys (c :: S))).all AV.isCell = true then
 (if (int i64 (intV (some (int i64 G)))).beq (int i64 (intV (some (int i64 G)))) = true then
 K (AV.tup [AV.sl (some (3, 0)) l.length 0 false, AV.bool true]) ((hTgFF9 l D S b c w wx wy A G E p sp dp fl pt x y z))
 else none) else none) else none))
 else none) else none) else none) else none) else none) else none)
 else (if 0 < l.length - (intV (some (int i64 A))).toNat then
 (if 0 + (intV (some (int i64 A))).toNat * 1 + (List.take ((b :: D).length.min (l.length - (intV (some (int i64 A))).toNat) * 1) (bys (b :: D))).length ≤ (bys l).length ∧ (List.take ((b :: D).length.min (l.length - (intV (some (int i64 A))).toNat) * 1) (bys (b :: D))).all AV.isCell = true then
 (if (int i64 (intV (some (int i64 A)))).beq (int i64 (intV (some (int i64 A)))) = true then
 (if 0 ≤ intV (some (int i64 G)) ∧ intV (some (int i64 G)) ≤ (l.length : Int) then
 (if 0 ≤ intV (some (int i64 E)) ∧ intV (some (int i64 E)) ≤ (((capOf l.length 0 false) : Nat) : Int) then
 (if 0 ≤ intV (some (int i64 G)) ∧ intV (some (int i64 G)) ≤ intV (some (int i64 E)) then
 (if cdec (Says ePort [b8 (intV (some (b8 p))), AV.sl (some (0, 0 + (intV (some (int i64 G))).toNat * 1)) ((intV (some (int i64 E))).toNat - (intV (some (int i64 G))).toNat) (roomOf l.length 0 (intV (some (int i64 G))).toNat (some (intV (some (int i64 E)))).isNone (intV (some (int i64 E))).toNat false) false, int u16 (intV (some (int u16 pt))), AV.agg (adF wy y), AV.agg (adF w z)] (hTgFF10 l D S b c w wx wy A G E p sp dp fl pt x y z) (AV.sl (some (5, 0)) (c :: S).length 0 false) (hTgFF7 l D S b c w wx wy A G E p sp dp fl pt x y z)) = true then
 (if 0 + (c :: S).length.min (l.length - (intV (some (int i64 G))).toNat) * 1 ≤ (bys (c :: S)).length then
 (if (List.take ((c :: S).length.min (l.length - (intV (some (int i64 G))).toNat) * 1) (bys (c :: S))).length = 0 then
 (if (int i64 (intV (some (int i64 G)))).beq (int i64 (intV (some (int i64 G)))) = true then
 K (AV.tup [AV.sl (some (3, 0)) l.length 0 false, AV.bool true]) ((hTgFF11 l D S b c w wx wy A G E p sp dp fl pt x y z))
 else none)
 else (if 0 < l.length - (intV (some (int i64 G))).toNat then
 (if 0 + (intV (some (int i64 G))).toNat * 1 + (List.take ((c :: S).length.min (l.length - (intV (some (int i64 G))).toNat) * 1) (bys (c :: S))).length ≤ (putCells (bys l) (0 + (intV (some (int i64 A))).toNat * 1) (List.take ((b :: D).length.min (l.length - (intV (some (int i64 A))).toNat) * 1) (bys (b :: D)))).length ∧ (List.take ((c :: S).length.min (l.length - (intV (some (int i64 G))).toNat) * 1) (bys (c :: S))).all AV.isCell = true then
 (if (int i64 (intV (some (int i64 G)))).beq (int i64 (intV (some (int i64 G)))) = true then
 K (AV.tup [AV.sl (some (3, 0)) l.length 0 false, AV.bool true]) ((hTgFF12 l D S b c w wx wy A G E p sp dp fl pt x y z))
 else none) else none) else none))
 else none) else none) else none) else none) else none) else none) else none) else none))
 else none) else none) else none) else none) else none) else none) else none))
 else none))
 else none) := by
  kernel_rfl

noncomputable def hTgFT0 (l D S : List UInt8) (b c : UInt8) (w wx wy : Bool) (A G E p sp dp fl pt : Int) (x y z : Nat → Int) : AHeap := [cells (bys l) 1 Md.far none, cells (adP w z pt) 18 Md.own none]
noncomputable def hTgFT1 (l D S : List UInt8) (b c : UInt8) (w wx wy : Bool) (A G E p sp dp fl pt : Int) (x y z : Nat → Int) : AHeap := []
noncomputable def hTgFT2 (l D S : List UInt8) (b c : UInt8) (w wx wy : Bool) (A G E p sp dp fl pt : Int) (x y z : Nat → Int) : AHeap := (hTgFF2 l D S b c w wx wy A G E p sp dp fl pt x y z)
noncomputable def hTgFT3 (l D S : List UInt8) (b c : UInt8) (w wx wy : Bool) (A G E p sp dp fl pt : Int) (x y z : Nat → Int) : AHeap := [cells (bys l) 1 Md.own none]
noncomputable def hTgFT4 (l D S : List UInt8) (b c : UInt8) (w wx wy : Bool) (A G E p sp dp fl pt : Int) (x y z : Nat → Int) : AHeap := (hTgFF4 l D S b c w wx wy A G E p sp dp fl pt x y z)
noncomputable def hTgFT5 (l D S : List UInt8) (b c : UInt8) (w wx wy : Bool) (A G E p sp dp fl pt : Int) (x y z : Nat → Int) : AHeap := [cells (bys (b :: D)) 1 Md.own none]
noncomputable def hTgFT6 (l D S : List UInt8) (b c : UInt8) (w wx wy : Bool) (A G E p sp dp fl pt : Int) (x y z : Nat → Int) : AHeap := (hTgFF6 l D S b c w wx wy A G E p sp dp fl pt x y z)
noncomputable def hTgFT7 (l D S : List UInt8) (b c : UInt8) (w wx wy : Bool) (A G E p sp dp fl pt : Int) (x y z : Nat → Int) : AHeap := [cells (bys (c :: S)) 1 Md.own none]
noncomputable def hTgFT8 (l D S : List UInt8) (b c : UInt8) (w wx wy : Bool) (A G E p sp dp fl pt : Int) (x y z : Nat → Int) : AHeap := (hTgFF8 l D S b c w wx wy A G E p sp dp fl pt x y z)
noncomputable def hTgFT9 (l D S : List UInt8) (b c : UInt8) (w wx wy : Bool) (A G E p sp dp fl pt : Int) (x y z : Nat → Int) : AHeap := (hTgFF9 l D S b c w wx wy A G E p sp dp fl pt x y z)
noncomputable def hTgFT10 (l D S : List UInt8) (b c : UInt8) (w wx wy : Bool) (A G E p sp dp fl pt : Int) (x y z : Nat → Int) : AHeap := (hTgFF10 l D S b c w wx wy A G E p sp dp fl pt x y z)
noncomputable def hTgFT11 (l D S : List UInt8) (b c : UInt8) (w wx wy : Bool) (A G E p sp dp fl pt : Int) (x y z : Nat → Int) : AHeap := (hTgFF11 l D S b c w wx wy A G E p sp dp fl pt x y z)
noncomputable def hTgFT12 (l D S : List UInt8) (b c : UInt8) (w wx wy : Bool) (A G E p sp dp fl pt : Int) (x y z : Nat → Int) : AHeap := (hTgFF12 l D S b c w wx wy A G E p sp dp fl pt x y z)
theorem nfTgFT {R : Type} (l D S : List UInt8) (b c : UInt8) (w wx wy : Bool) (A G E p sp dp fl pt : Int) (x y z : Nat → Int) (K : AV → AHeap → Option R) :
 qrun Try.prog (tTg l (b :: D) (c :: S) (.tup [.agg (viewOf false A G E p (adF wx x) (adF wy y) sp dp fl), .int .i64 0])) 100 5 [(34, .bool true)] [] 8 [slB 0 l, .agg (adF w z ++ [.int .u16 pt])] [farB l] K =
 (if cdec (Says eFrR [AV.sl (some (0, 0)) l.length 0 false] (hTgFT0 l D S b c w wx wy A G E p sp dp fl pt x y z) (AV.tup [AV.agg (vwG false A G E p wx wy x y sp dp fl), int i64 0]) (hTgFT1 l D S b c w wx wy A G E p sp dp fl pt x y z)) = true then
 (if (!boolV (some (AV.bool w)) == boolV (some (AV.bool false))) = true then
 K (AV.tup [AV.sl none 0 0 true, AV.bool false]) ((hTgFT2 l D S b c w wx wy A G E p sp dp fl pt x y z))
 else (if cdec (IsAdr (adF w z)) = true then
 (if (!opq (adrValid (adF w z))) = true then
 K (AV.tup [AV.sl none 0 0 true, AV.bool false]) ((hTgFT2 l D S b c w wx wy A G E p sp dp fl pt x y z))
 else (if (intV (some (int u16 pt)) == 0) = true then
 (if cdec (Says eClone [AV.sl (some (0, 0)) l.length 0 false] (hTgFT2 l D S b c w wx wy A G E p sp dp fl pt x y z) (AV.sl (some (3, 0)) l.length 0 false) (hTgFT3 l D S b c w wx wy A G E p sp dp fl pt x y z)) = true then
 (if 0 ≤ intV (some (int i64 A)) ∧ intV (some (int i64 A)) ≤ (l.length : Int) then
 (if 0 ≤ intV (some (int i64 E)) ∧ intV (some (int i64 E)) ≤ (((capOf l.length 0 false) : Nat) : Int) then
 (if 0 ≤ intV (some (int i64 A)) ∧ intV (some (int i64 A)) ≤ intV (some (int i64 E)) then
 (if cdec (Says eDst4 [AV.sl (some (0, 0 + (intV (some (int i64 A))).toNat * 1)) ((intV (some (int i64 E))).toNat - (intV (some (int i64 A))).toNat) (roomOf l.length 0 (intV (some (int i64 A))).toNat (some (intV (some (int i64 E)))).isNone (intV (some (int i64 E))).toNat false) false, AV.agg (adF w z)] (hTgFT4 l D S b c w wx wy A G E p sp dp fl pt x y z) (AV.sl (some (4, 0)) (b :: D).length 0 false) (hTgFT5 l D S b c w wx wy A G E p sp dp fl pt x y z)) = true then
 (if 0 + (b :: D).length.min (l.length - (intV (some (int i64 A))).toNat) * 1 ≤ (bys (b :: D)).length then
 (if (List.take ((b :: D).length.min (l.length - (intV (some (int i64 A))).toNat) * 1) (bys (b :: D))).length = 0 then
 (if (int i64 (intV (some (int i64 A)))).beq (int i64 (intV (some (int i64 A)))) = true then
 (if 0 ≤ intV (some (int i64 G)) ∧ intV (some (int i64 G)) ≤ (l.length : Int) then
 (if 0 ≤ intV (some (int i64 E)) ∧ intV (some (int i64 E)) ≤ (((capOf l.length 0 false) : Nat) : Int) then
 (if 0 ≤ intV (some (int i64 G)) ∧ intV (some (int i64 G)) ≤ intV (some (int i64 E)) then
 (if cdec (Says ePort [b8 (intV (some (b8 p))), AV.sl (some (0, 0 + (intV (some (int i64 G))).toNat * 1)) ((intV (some (int i64 E))).toNat - (intV (some (int i64 G))).toNat) (roomOf l.length 0 (intV (some (int i64 G))).toNat (some (intV (some (int i64 E)))).isNone (intV (some (int i64 E))).toNat false) false, int u16 (intV (some (int u16 dp))), AV.agg (adF wy y), AV.agg (adF w z)] (hTgFT6 l D S b c w wx wy A G E p sp dp fl pt x y z) (AV.sl (some (5, 0)) (c :: S).length 0 false) (hTgFT7 l D S b c w wx wy A G E p sp dp fl pt x y z)) = true then
 (if 0 + (c :: S).length.min (l.length - (intV (some (int i64 G))).toNat) * 1 ≤ (bys (c :: S)).length then
 (if (List.take ((c :: S).length.min (l.length - (intV (some (int i64 G))).toNat) * 1) (bys (c :: S))).length = 0 then
 (if (int i64 (intV (some (int i64 G)))).beq (int i64 (intV (some (int i64 G)))) = true then
 K (AV.tup [AV.sl (some (3, 0)) l.length 0 false, AV.bool true]) ((hTgFT8 l D S b c w wx wy A G E p sp dp fl pt x y z))
 else none)
 else (if 0 < l.length - (intV (some (int i64 G))).toNat then
 (if 0 + (intV (some (int i64 G))).toNat * 1 + (List.take ((c :: S).length.min (l.length - (intV (some (int i64 G))).toNat) * 1) (bys (c :: S))).length ≤ (bys l).length ∧ (List.take ((c :: S).length.min (l.length - (intV (some (int i64 G))).toNat) * 1) (bys (c :: S))).all AV.isCell = true then
 (if (int i64 (intV (some (int i64 G)))).beq (int i64 (intV (some (int i64 G)))) = true then
 K (AV.tup [AV.sl (some (3, 0)) l.length 0 false, AV.bool true]) ((hTgFT9 l D S b c w wx wy A G E p sp dp fl pt x y z))
 else none) else none) else none))
 else none) else none) else none) else none) else none) else none)
 else (if 0 < l.length - (intV (some (int i64 A))).toNat then
 (if 0 + (intV (some (int i64 A))).toNat * 1 + (List.take ((b :: D).length.min (l.length - (intV (some (int i64 A))).toNat) * 1) (bys (b :: D))).length ≤ (bys l).length ∧ (List.take ((b :: D).length.min (l.length - (intV (some (int i64 A))).toNat) * 1) (bys (b :: D))).all AV.isCell = true then
 (if (int i64 (intV (some (int i64 A)))).beq (int i64 (intV (some (int i64 A)))) = true then
 (if 0 ≤ intV (some (int i64 G)) ∧ intV (some (int i64 G)) ≤ (l.length : Int) then
 (if 0 ≤ intV (some (int i64 E)) ∧ intV (some (int i64 E)) ≤ (((capOf l.length 0 false) : Nat) : Int) then
 (if 0 ≤ intV (some (int i64 G)) ∧ intV (some (int i64 G)) ≤ intV (some (int i64 E)) then
 (if cdec (Says ePort [b8 (intV (some (b8 p))), AV.sl (some (0, 0 + (intV (some (int i64 G))).toNat * 1)) ((intV (some (int i64 E))).toNat - (intV (some (int i64 G))).toNat) (roomOf l.length 0 (intV (some (int i64 G))).toNat (some (intV (some (int i64 E)))).isNone (intV (some (int i64 E))).toNat false) false, int u16 (intV (some (int u16 dp))), AV.agg (adF wy y), AV.agg (adF w z)] (hTgFT10 l D S b c w wx wy A G E p sp dp fl pt x y z) (AV.sl (some (5, 0)) (c :: S).length 0 false) (hTgFT7 l D S b c w wx wy A G E p sp dp fl pt x y z)) = true then
 (if 0 + (c :: S).length.min (l.length - (intV (some (int i64 G))).toNat) * 1 ≤ (bys (c :: S)).length then
 (if (List.take ((c :: S).length.min (l.length - (intV (some (int i64 G))).toNat) * 1) (bys (c :: S))).length = 0 then
 (if (int i64 (intV (some (int i64 G)))).beq (int i64 (intV (some (int i64 G)))) = true then
 K (AV.tup [AV.sl (some (3, 0)) l.length 0 false, AV.bool true]) ((hTgFT11 l D S b c w wx wy A G E p sp dp fl pt x y z))
 else none)
 else (if 0 < l.length - (intV (some (int i64 G))).toNat then
 (if 0 + (intV (some (int i64 G))).toNat * 1 + (List.take ((c :: S).length.min (l.length - (intV (some (int i64 G))).toNat) * 1) (bys (c :: S))).length ≤ (putCells (bys l) (0 + (intV (some (int i64 A))).toNat * 1) (List.take ((b :: D).length.min (l.length - (intV (some (int i64 A))).toNat) * 1) (bys (b :: D)))).length ∧ (List.take ((c :: S).length.min (l.length - (intV (some (int i64 G))).toNat) * 1) (bys (c :: S))).all AV.isCell = true then
 (if (int i64 (intV (some (int i64 G)))).beq (int i64 (intV (some (int i64 G)))) = true then
 K (AV.tup [AV.sl (some (3, 0)) l.length 0 false, AV.bool true]) ((hTgFT12 l D S b c w wx wy A G E p sp dp fl pt x y z))
 else none) else none) else none))
 else none) else none) else none) else none) else none) else none) else none) else none))
 else none) else none) else none) else none) else none) else none) else none))
 else none))
 else none) := by
  kernel_rfl

noncomputable def hTgTF0 (l D S : List UInt8) (b c : UInt8) (w wx wy : Bool) (A G E p sp dp fl pt : Int) (x y z : Nat → Int) : AHeap := [cells (bys l) 1 Md.far none, cells (adP w z pt) 18 Md.own none]
noncomputable def hTgTF1 (l D S : List UInt8) (b c : UInt8) (w wx wy : Bool) (A G E p sp dp fl pt : Int) (x y z : Nat → Int) : AHeap := []
noncomputable def hTgTF2 (l D S : List UInt8) (b c : UInt8) (w wx wy : Bool) (A G E p sp dp fl pt : Int) (x y z : Nat → Int) : AHeap := [cells (bys l) 1 Md.far none, cells (adP w z pt) 18 Md.own none, cells (vwG true A G E p wx wy x y sp dp fl) 42 Md.own none]
noncomputable def hTgTF3 (l D S : List UInt8) (b c : UInt8) (w wx wy : Bool) (A G E p sp dp fl pt : Int) (x y z : Nat → Int) : AHeap := [cells (bys l) 1 Md.own none]
noncomputable def hTgTF4 (l D S : List UInt8) (b c : UInt8) (w wx wy : Bool) (A G E p sp dp fl pt : Int) (x y z : Nat → Int) : AHeap := (hTgTF2 l D S b c w wx wy A G E p sp dp fl pt x y z) ++ [cells (bys l) 1 Md.own none]
noncomputable def hTgTF5 (l D S : List UInt8) (b c : UInt8) (w wx wy : Bool) (A G E p sp dp fl pt : Int) (x y z : Nat → Int) : AHeap := [cells (bys (b :: D)) 1 Md.own none]
noncomputable def hTgTF6 (l D S : List UInt8) (b c : UInt8) (w wx wy : Bool) (A G E p sp dp fl pt : Int) (x y z : Nat → Int) : AHeap := (hTgTF4 l D S b c w wx wy A G E p sp dp fl pt x y z) ++ [cells (bys (b :: D)) 1 Md.own none]
noncomputable def hTgTF7 (l D S : List UInt8) (b c : UInt8) (w wx wy : Bool) (A G E p sp dp fl pt : Int) (x y z : Nat → Int) : AHeap := [cells (bys (c :: S)) 1 Md.own none]
noncomputable def hTgTF8 (l D S : List UInt8) (b c : UInt8) (w wx wy : Bool) (A G E p sp dp fl pt : Int) (x y z : Nat → Int) : AHeap := (hTgTF6 l D S b c w wx wy A G E p sp dp fl pt x y z) ++ [cells (bys (c :: S)) 1 Md.own none]
noncomputable def hTgTF9 (l D S : List UInt8) (b c : UInt8) (w wx wy : Bool) (A G E p sp dp fl pt : Int) (x y z : Nat → Int) : AHeap := ((hTgFF9 l D S b c w wx wy A G E p sp dp fl pt x y z).set 2 (cells (vwG true A G E p wx wy x y sp dp fl) 42 Md.own none))
noncomputable def hTgTF10 (l D S : List UInt8) (b c : UInt8) (w wx wy : Bool) (A G E p sp dp fl pt : Int) (x y z : Nat → Int) : AHeap := ((hTgFF10 l D S b c w wx wy A G E p sp dp fl pt x y z).set 2 (cells (vwG true A G E p wx wy x y sp dp fl) 42 Md.own none))
noncomputable def hTgTF11 (l D S : List UInt8) (b c : UInt8) (w wx wy : Bool) (A G E p sp dp fl pt : Int) (x y z : Nat → Int) : AHeap := (hTgTF10 l D S b c w wx wy A G E p sp dp fl pt x y z) ++ [cells (bys (c :: S)) 1 Md.own none]
noncomputable def hTgTF12 (l D S : List UInt8) (b c : UInt8) (w wx wy : Bool) (A G E p sp dp fl pt : Int) (x y z : Nat → Int) : AHeap := ((hTgFF12 l D S b c w wx wy A G E p sp dp fl pt x y z).set 2 (cells (vwG true A G E p wx wy x y sp dp fl) 42 Md.own none))
theorem nfTgTF {R : Type} (l D S : List UInt8) (b c : UInt8) (w wx wy : Bool) (A G E p sp dp fl pt : Int) (x y z : Nat → Int) (K : AV → AHeap → Option R) :
 qrun Try.prog (tTg l (b :: D) (c :: S) (.tup [.agg (viewOf true A G E p (adF wx x) (adF wy y) sp dp fl), .int .i64 0])) 100 5 [(34, .bool false)] [] 8 [slB 0 l, .agg (adF w z ++ [.int .u16 pt])] [farB l] K =
 (if cdec (Says eFrR [AV.sl (some (0, 0)) l.length 0 false] (hTgTF0 l D S b c w wx wy A G E p sp dp fl pt x y z) (AV.tup [AV.agg (vwG true A G E p wx wy x y sp dp fl), int i64 0]) (hTgTF1 l D S b c w wx wy A G E p sp dp fl pt x y z)) = true then
 (if (!boolV (some (AV.bool w)) == boolV (some (AV.bool true))) = true then
 K (AV.tup [AV.sl none 0 0 true, AV.bool false]) ((hTgTF2 l D S b c w wx wy A G E p sp dp fl pt x y z))
 else (if cdec (IsAdr (adF w z)) = true then
 (if (!opq (adrValid (adF w z))) = true then
 K (AV.tup [AV.sl none 0 0 true, AV.bool false]) ((hTgTF2 l D S b c w wx wy A G E p sp dp fl pt x y z))
 else (if (intV (some (int u16 pt)) == 0) = false then
 (if cdec (Says eClone [AV.sl (some (0, 0)) l.length 0 false] (hTgTF2 l D S b c w wx wy A G E p sp dp fl pt x y z) (AV.sl (some (3, 0)) l.length 0 false) (hTgTF3 l D S b c w wx wy A G E p sp dp fl pt x y z)) = true then
 (if 0 ≤ intV (some (int i64 A)) ∧ intV (some (int i64 A)) ≤ (l.length : Int) then
 (if 0 ≤ intV (some (int i64 E)) ∧ intV (some (int i64 E)) ≤ (((capOf l.length 0 false) : Nat) : Int) then
 (if 0 ≤ intV (some (int i64 A)) ∧ intV (some (int i64 A)) ≤ intV (some (int i64 E)) then
 (if cdec (Says eDst6 [AV.sl (some (0, 0 + (intV (some (int i64 A))).toNat * 1)) ((intV (some (int i64 E))).toNat - (intV (some (int i64 A))).toNat) (roomOf l.length 0 (intV (some (int i64 A))).toNat (some (intV (some (int i64 E)))).isNone (intV (some (int i64 E))).toNat false) false, AV.agg (adF w z)] (hTgTF4 l D S b c w wx wy A G E p sp dp fl pt x y z) (AV.sl (some (4, 0)) (b :: D).length 0 false) (hTgTF5 l D S b c w wx wy A G E p sp dp fl pt x y z)) = true then
 (if 0 + (b :: D).length.min (l.length - (intV (some (int i64 A))).toNat) * 1 ≤ (bys (b :: D)).length then
 (if (List.take ((b :: D).length.min (l.length - (intV (some (int i64 A))).toNat) * 1) (bys (b :: D))).length = 0 then
 (if (int i64 (intV (some (int i64 A)))).beq (int i64 (intV (some (int i64 A)))) = true then
 (if 0 ≤ intV (some (int i64 G)) ∧ intV (some (int i64 G)) ≤ (l.length : Int) then
 (if 0 ≤ intV (some (int i64 E)) ∧ intV (some (int i64 E)) ≤ (((capOf l.length 0 false) : Nat) : Int) then
 (if 0 ≤ intV (some (int i64 G)) ∧ intV (some (int i64 G)) ≤ intV (some (int i64 E)) then
 (if cdec (Says ePort [b8 (intV (some (b8 p))), AV.sl (some (0, 0 + (intV (some (int i64 G))).toNat * 1)) ((intV (some (int i64 E))).toNat - (intV (some (int i64 G))).toNat) (roomOf l.length 0 (intV (some (int i64 G))).toNat (some (intV (some (int i64 E)))).isNone (intV (some (int i64 E))).toNat false) false, int u16 (intV (some (int u16 pt))), AV.agg (adF wy y), AV.agg (adF w z)] (hTgTF6 l D S b c w wx wy A G E p sp dp fl pt x y z) (AV.sl (some (5, 0)) (c :: S).length 0 false) (hTgTF7 l D S b c w wx wy A G E p sp dp fl pt x y z)) = true then
 (if 0 + (c :: S).length.min (l.length - (intV (some (int i64 G))).toNat) * 1 ≤ (bys (c :: S)).length then
 (if (List.take ((c :: S).length.min (l.length - (intV (some (int i64 G))).toNat) * 1) (bys (c :: S))).length = 0 then
 (if (int i64 (intV (some (int i64 G)))).beq (int i64 (intV (some (int i64 G)))) = true then
 K (AV.tup [AV.sl (some (3, 0)) l.length 0 false, AV.bool true]) ((hTgTF8 l D S b c w wx wy A G E p sp dp fl pt x y z))
 else none)
 else (if 0 < l.length - (intV (some (int i64 G))).toNat then
 (if 0 + (intV (some (int i64 G))).toNat * 1 + (List.take ((c :: S).length.min (l.length - (intV (some (int i64 G))).toNat) * 1) (bys (c :: S))).length ≤ (bys l).length ∧ (List.take ((c :: S).length.min (l.length - (intV (some (int i64 G))).toNat) * 1) (bys (c :: S))).all AV.isCell = true then
 (if (int i64 (intV (some (int i64 G)))).beq (int i64 (intV (some (int i64 G)))) = true then
 K (AV.tup [AV.sl (some (3, 0)) l.length 0 false, AV.bool true]) ((hTgTF9 l D S b c w wx wy A G E p sp dp fl pt x y z))
 else none) else none) else none))
 else none) else none) else none) else none) else none) else none)
 else (if 0 < l.length - (intV (some (int i64 A))).toNat then
 (if 0 + (intV (some (int i64 A))).toNat * 1 + (List.take ((b :: D).length.min (l.length - (intV (some (int i64 A))).toNat) * 1) (bys (b :: D))).length ≤ (bys l).length ∧ (List.take ((b :: D).length.min (l.length - (intV (some (int i64 A))).toNat) * 1) (bys (b :: D))).all AV.isCell = true then
 (if (int i64 (intV (some (int i64 A)))).beq (int i64 (intV (some (int i64 A)))) = true then
 (if 0 ≤ intV (some (int i64 G)) ∧ intV (some (int i64 G)) ≤ (l.length : Int) then
 (if 0 ≤ intV (some (int i64 E)) ∧ intV (some (int i64 E)) ≤ (((capOf l.length 0 false) : Nat) : Int) then
 (if 0 ≤ intV (some (int i64 G)) ∧ intV (some (int i64 G)) ≤ intV (some (int i64 E)) then
 (if cdec (Says ePort [b8 (intV (some (b8 p))), AV.sl (some (0, 0 + (intV (some (int i64 G))).toNat * 1)) ((intV (some (int i64 E))).toNat - (intV (some (int i64 G))).toNat) (roomOf l.length 0 (intV (some (int i64 G))).toNat (some (intV (some (int i64 E)))).isNone (intV (some (int i64 E))).toNat false) false, int u16 (intV (some (int u16 pt))), AV.agg (adF wy y), AV.agg (adF w z)] (hTgTF10 l D S b c w wx wy A G E p sp dp fl pt x y z) (AV.sl (some (5, 0)) (c :: S).length 0 false) (hTgTF7 l D S b c w wx wy A G E p sp dp fl pt x y z)) = true then
 (if 0 + (c :: S).length.min (l.length - (intV (some (int i64 G))).toNat) * 1 ≤ (bys (c :: S)).length then
 (if (List.take ((c :: S).length.min (l.length - (intV (some (int i64 G))).toNat) * 1) (bys (c :: S))).length = 0 then
 (if (int i64 (intV (some (int i64 G)))).beq (int i64 (intV (some (int i64 G)))) = true then
 K (AV.tup [AV.sl (some (3, 0)) l.length 0 false, AV.bool true]) ((hTgTF11 l D S b c w wx wy A G E p sp dp fl pt x y z))
 else none)
 else (if 0 < l.length - (intV (some (int i64 G))).toNat then
 (if 0 + (intV (some (int i64 G))).toNat * 1 + (List.take ((c :: S).length.min (l.length - (intV (some (int i64 G))).toNat) * 1) (bys (c :: S))).length ≤ (putCells (bys l) (0 + (intV (some (int i64 A))).toNat * 1) (List.take ((b :: D).length.min (l.length - (intV (some (int i64 A))).toNat) * 1) (bys (b :: D)))).length ∧ (List.take ((c :: S).length.min (l.length - (intV (some (int i64 G))).toNat) * 1) (bys (c :: S))).all AV.isCell = true then
 (if (int i64 (intV (some (int i64 G)))).beq (int i64 (intV (some (int i64 G)))) = true then
 K (AV.tup [AV.sl (some (3, 0)) l.length 0 false, AV.bool true]) ((hTgTF12 l D S b c w wx wy A G E p sp dp fl pt x y z))
 else none) else none) else none))
 else none) else none) else none) else none) else none) else none) else none) else none))
 else none) else none) else none) else none) else none) else none) else none))
 else none))
 else none) := by
  kernel_rfl

noncomputable def hTgTT0 (l D S : List UInt8) (b c : UInt8) (w wx wy : Bool) (A G E p sp dp fl pt : Int) (x y z : Nat → Int) : AHeap := [cells (bys l) 1 Md.far none, cells (adP w z pt) 18 Md.own none]
noncomputable def hTgTT1 (l D S : List UInt8) (b c : UInt8) (w wx wy : Bool) (A G E p sp dp fl pt : Int) (x y z : Nat → Int) : AHeap := []
noncomputable def hTgTT2 (l D S : List UInt8) (b c : UInt8) (w wx wy : Bool) (A G E p sp dp fl pt : Int) (x y z : Nat → Int) : AHeap := (hTgTF2 l D S b c w wx wy A G E p sp dp fl pt x y z)
noncomputable def hTgTT3 (l D S : List UInt8) (b c : UInt8) (w wx wy : Bool) (A G E p sp dp fl pt : Int) (x y z : Nat → Int) : AHeap := [cells (bys l) 1 Md.own none]
noncomputable def hTgTT4 (l D S : List UInt8) (b c : UInt8) (w wx wy : Bool) (A G E p sp dp fl pt : Int) (x y z : Nat → Int) : AHeap := (hTgTF4 l D S b c w wx wy A G E p sp dp fl pt x y z)
noncomputable def hTgTT5 (l D S : List UInt8) (b c : UInt8) (w wx wy : Bool) (A G E p sp dp fl pt : Int) (x y z : Nat → Int) : AHeap := [cells (bys (b :: D)) 1 Md.own none]
noncomputable def hTgTT6 (l D S : List UInt8) (b c : UInt8) (w wx wy : Bool) (A G E p sp dp fl pt : Int) (x y z : Nat → Int) : AHeap := (hTgTF6 l D S b c w wx wy A G E p sp dp fl pt x y z)
noncomputable def hTgTT7 (l D S : List UInt8) (b c : UInt8) (w wx wy : Bool) (A G E p sp dp fl pt : Int) (x y z : Nat → Int) : AHeap := [cells (bys (c :: S)) 1 Md.own none]
noncomputable def hTgTT8 (l D S : List UInt8) (b c : UInt8) (w wx wy : Bool) (A G E p sp dp fl pt : Int) (x y z : Nat → Int) : AHeap := (hTgTF8 l D S b c w wx wy A G E p sp dp fl pt x y z)
noncomputable def hTgTT9 (l D S : List UInt8) (b c : UInt8) (w wx wy : Bool) (A G E p sp dp fl pt : Int) (x y z : Nat → Int) : AHeap := (hTgTF9 l D S b c w wx wy A G E p sp dp fl pt x y z)
noncomputable def hTgTT10 (l D S : List UInt8) (b c : UInt8) (w wx wy : Bool) (A G E p sp dp fl pt : Int) (x y z : Nat → Int) : AHeap := (hTgTF10 l D S b c w wx wy A G E p sp dp fl pt x y z)
noncomputable def hTgTT11 (l D S : List UInt8) (b c : UInt8) (w wx wy : Bool) (A G E p sp dp fl pt : Int) (x y z : Nat → Int) : AHeap := (hTgTF11 l D S b c w wx wy A G E p sp dp fl pt x y z)
noncomputable def hTgTT12 (l D S : List UInt8) (b c : UInt8) (w wx wy : Bool) (A G E p sp dp fl pt : Int) (x y z : Nat → Int) : AHeap := (hTgTF12 l D S b c w wx wy A G E p sp dp fl pt x y z)
theorem nfTgTT {R : Type} (l D S : List UInt8) (b c : UInt8) (w wx wy : Bool) (A G E p sp dp fl pt : Int) (x y z : Nat → Int) (K : AV → AHeap → Option R) :
 qrun Try.prog (tTg l (b :: D) (c :: S) (.tup [.agg (viewOf true A G E p (adF wx x) (adF wy y) sp dp fl), .int .i64 0])) 100 5 [(34, .bool true)] [] 8 [slB 0 l, .agg (adF w z ++ [.int .u16 pt])] [farB l] K =
 (if cdec (Says eFrR [AV.sl (some (0, 0)) l.length 0 false] (hTgTT0 l D S b c w wx wy A G E p sp dp fl pt x y z) (AV.tup [AV.agg (vwG true A G E p wx wy x y sp dp fl), int i64 0]) (hTgTT1 l D S b c w wx wy A G E p sp dp fl pt x y z)) = true then
 (if (!boolV (some (AV.bool w)) == boolV (some (AV.bool true))) = true then
 K (AV.tup [AV.sl none 0 0 true, AV.bool false]) ((hTgTT2 l D S b c w wx wy A G E p sp dp fl pt x y z))
 else (if cdec (IsAdr (adF w z)) = true then
 (if (!opq (adrValid (adF w z))) = true then
 K (AV.tup [AV.sl none 0 0 true, AV.bool false]) ((hTgTT2 l D S b c w wx wy A G E p sp dp fl pt x y z))
 else (if (intV (some (int u16 pt)) == 0) = true then
 (if cdec (Says eClone [AV.sl (some (0, 0)) l.length 0 false] (hTgTT2 l D S b c w wx wy A G E p sp dp fl pt x y z) (AV.sl (some (3, 0)) l.length 0 false) (hTgTT3 l D S b c w wx wy A G E p sp dp fl pt x y z)) = true then
 (if 0 ≤ intV (some (int i64 A)) ∧ intV (some (int i64 A)) ≤ (l.length : Int) then
 (if 0 ≤ intV (some (int i64 E)) ∧ intV (some (int i64 E)) ≤ (((capOf l.length 0 false) : Nat) : Int) then
 (if 0 ≤ intV (some (int i64 A)) ∧ intV (some (int i64 A)) ≤ intV (some (int i64 E)) then
 (if cdec (Says eDst6 [AV.sl (some (0, 0 + (intV (some (int i64 A))).toNat * 1)) ((intV (some (int i64 E))).toNat - (intV (some (int i64 A))).toNat) (roomOf l.length 0 (intV (some (int i64 A))).toNat (some (intV (some (int i64 E)))).isNone (intV (some (int i64 E))).toNat false) false, AV.agg (adF w z)] (hTgTT4 l D S b c w wx wy A G E p sp dp fl pt x y z) (AV.sl (some (4, 0)) (b :: D).length 0 false) (hTgTT5 l D S b c w wx wy A G E p sp dp fl pt x y z)) = true then
 (if 0 + (b :: D).length.min (l.length - (intV (some (int i64 A))).toNat) * 1 ≤ (bys (b :: D)).length then
 (if (List.take ((b :: D).length.min (l.length - (intV (some (int i64 A))).toNat) * 1) (bys (b :: D))).length = 0 then
 (if (int i64 (intV (some (int i64 A)))).beq (int i64 (intV (some (int i64 A)))) = true then
 (if 0 ≤ intV (some (int i64 G)) ∧ intV (some (int i64 G)) ≤ (l.length : Int) then
 (if 0 ≤ intV (some (int i64 E)) ∧ intV (some (int i64 E)) ≤ (((capOf l.length 0 false) : Nat) : Int) then
 (if 0 ≤ intV (some (int i64 G)) ∧ intV (some (int i64 G)) ≤ intV (some (int i64 E)) then
 (if cdec (Says ePort [b8 (intV (some (b8 p))), AV.sl (some (0, 0 + (intV (some (int i64 G))).toNat * 1)) ((intV (some (int i64 E))).toNat - (intV (some (int i64 G))).toNat) (roomOf l.length 0 (intV (some (int i64 G))).toNat (some (intV (some (int i64 E)))).isNone (intV (some (int i64 E))).toNat false) false, int u16 (intV (some (int u16 dp))), AV.agg (adF wy y), AV.agg (adF w z)] (hTgTT6 l D S b c w wx wy A G E p sp dp fl pt x y z) (AV.sl (some (5, 0)) (c :: S).length 0 false) (hTgTT7 l D S b c w wx wy A G E p sp dp fl pt x y z)) = true then
 (if 0 + (c :: S).length.min (l.length - (intV (some (int i64 G))).toNat) * 1 ≤ (bys (c :: S)).length then
 (if (List.take ((c :: S).length.min (l.length - (intV (some (int i64 G))).toNat) * 1) (bys (c :: S))).length = 0 then
 (if (int i64 (intV (some (int i64 G)))).beq (int i64 (intV (some (int i64 G)))) = true then
 K (AV.tup [AV.sl (some (3, 0)) l.length 0 false, AV.bool true]) ((hTgTT8 l D S b c w wx wy A G E p sp dp fl pt x y z))
 else none)
 else (if 0 < l.length - (intV (some (int i64 G))).toNat then
 (if 0 + (intV (some (int i64 G))).toNat * 1 + (List.take ((c :: S).length.min (l.length - (intV (some (int i64 G))).toNat) * 1) (bys (c :: S))).length ≤ (bys l).length ∧ (List.take ((c :: S).length.min (l.length - (intV (some (int i64 G))).toNat) * 1) (bys (c :: S))).all AV.isCell = true then
 (if (int i64 (intV (some (int i64 G)))).beq (int i64 (intV (some (int i64 G)))) = true then
 K (AV.tup [AV.sl (some (3, 0)) l.length 0 false, AV.bool true]) ((hTgTT9 l D S b c w wx wy A G E p sp dp fl pt x y z))
 else none) else none) else none))
 else none) else none) else none) else none) else none) else none)
 else (if 0 < l.length - (intV (some (int i64 A))).toNat then
 (if 0 + (intV (some (int i64 A))).toNat * 1 + (List.take ((b :: D).length.min (l.length - (intV (some (int i64 A))).toNat) * 1) (bys (b :: D))).length ≤ (bys l).length ∧ (List.take ((b :: D).length.min (l.length - (intV (some (int i64 A))).toNat) * 1) (bys (b :: D))).all AV.isCell = true then
 (if (int i64 (intV (some (int i64 A)))).beq (int i64 (intV (some (int i64 A)))) = true then
 (if 0 ≤ intV (some (int i64 G)) ∧ intV (some (int i64 G)) ≤ (l.length : Int) then
 (if 0 ≤ intV (some (int i64 E)) ∧ intV (some (int i64 E)) ≤ (((capOf l.length 0 false) : Nat) : Int) then
 (if 0 ≤ intV (some (int i64 G)) ∧ intV (some (int i64 G)) ≤ intV (some (int i64 E)) then
 (if cdec (Says ePort [b8 (intV (some (b8 p))), AV.sl (some (0, 0 + (intV (some (int i64 G))).toNat * 1)) ((intV (some (int i64 E))).toNat - (intV (some (int i64 G))).toNat) (roomOf l.length 0 (intV (some (int i64 G))).toNat (some (intV (some (int i64 E)))).isNone (intV (some (int i64 E))).toNat false) false, int u16 (intV (some (int u16 dp))), AV.agg (adF wy y), AV.agg (adF w z)] (hTgTT10 l D S b c w wx wy A G E p sp dp fl pt x y z) (AV.sl (some (5, 0)) (c :: S).length 0 false) (hTgTT7 l D S b c w wx wy A G E p sp dp fl pt x y z)) = true then
 (if 0 + (c :: S).length.min (l.length - (intV (some (int i64 G))).toNat) * 1 ≤ (bys (c :: S)).length then
 (if (List.take ((c :: S).length.min (l.length - (intV (some (int i64 G))).toNat) * 1) (bys (c :: S))).length = 0 then
 (if (int i64 (intV (some (int i64 G)))).beq (int i64 (intV (some (int i64 G)))) = true then
 K (AV.tup [AV.sl (some (3, 0)) l.length 0 false, AV.bool true]) ((hTgTT11 l D S b c w wx wy A G E p sp dp fl pt x y z))
 else none)
 else (if 0 < l.length - (intV (some (int i64 G))).toNat then
 (if 0 + (intV (some (int i64 G))).toNat * 1 + (List.take ((c :: S).length.min (l.length - (intV (some (int i64 G))).toNat) * 1) (bys (c :: S))).length ≤ (putCells (bys l) (0 + (intV (some (int i64 A))).toNat * 1) (List.take ((b :: D).length.min (l.length - (intV (some (int i64 A))).toNat) * 1) (bys (b :: D)))).length ∧ (List.take ((c :: S).length.min (l.length - (intV (some (int i64 G))).toNat) * 1) (bys (c :: S))).all AV.isCell = true then
 (if (int i64 (intV (some (int i64 G)))).beq (int i64 (intV (some (int i64 G)))) = true then
 K (AV.tup [AV.sl (some (3, 0)) l.length 0 false, AV.bool true]) ((hTgTT12 l D S b c w wx wy A G E p sp dp fl pt x y z))
 else none) else none) else none))
 else none) else none) else none) else none) else none) else none) else none) else none))
 else none) else none) else none) else none) else none) else none) else none))
 else none))
 else none) := by
  kernel_rfl

noncomputable def hTgE0 (l : List UInt8) (w : Bool) (r pt : Int) (z : Nat → Int) : AHeap := [cells (bys l) 1 Md.far none, cells (adP w z pt) 18 Md.own none]
noncomputable def hTgE1 (l : List UInt8) (w : Bool) (r pt : Int) (z : Nat → Int) : AHeap := []
noncomputable def hTgE2 (l : List UInt8) (w : Bool) (r pt : Int) (z : Nat → Int) : AHeap := (hTgE0 l w r pt z) ++ [cells [AV.bool false, int i64 0, int i64 0, int i64 0, b8 0, AV.bool false, b8 0, b8 0, b8 0, b8 0, b8 0, b8 0, b8 0, b8 0, b8 0, b8 0, b8 0, b8 0, b8 0, b8 0, b8 0, b8 0, AV.bool false, b8 0, b8 0, b8 0, b8 0, b8 0, b8 0, b8 0, b8 0, b8 0, b8 0, b8 0, b8 0, b8 0, b8 0, b8 0, b8 0, int u16 0, int u16 0, b8 0] 42 Md.own none]
noncomputable def hTgE3 (l : List UInt8) (w : Bool) (r pt : Int) (z : Nat → Int) : AHeap := [cells (bys l) 1 Md.own none]
noncomputable def hTgE4 (l : List UInt8) (w : Bool) (r pt : Int) (z : Nat → Int) : AHeap := (hTgE2 l w r pt z) ++ [cells (bys l) 1 Md.own none]
noncomputable def hTgE5 (l : List UInt8) (w : Bool) (r pt : Int) (z : Nat → Int) : AHeap := [cells [] 1 Md.own none]
noncomputable def hTgE6 (l : List UInt8) (w : Bool) (r pt : Int) (z : Nat → Int) : AHeap := (hTgE4 l w r pt z) ++ [cells [] 1 Md.own none]
noncomputable def hTgE7 (l : List UInt8) (w : Bool) (r pt : Int) (z : Nat → Int) : AHeap := (hTgE6 l w r pt z) ++ [cells [] 1 Md.own none]
theorem nfTgE {R : Type} (l : List UInt8) (w : Bool) (r pt : Int) (z : Nat → Int) (K : AV → AHeap → Option R) :
 qrun Try.prog (tTg l [] [] (.tup [.agg view0, .int .i64 r])) 100 5 [] [] 8 [slB 0 l, .agg (adF w z ++ [.int .u16 pt])] [farB l] K =
 (if cdec (Says eFrR [AV.sl (some (0, 0)) l.length 0 false] (hTgE0 l w r pt z) (AV.tup [AV.agg view0, int i64 r]) (hTgE1 l w r pt z)) = true then
 (if (r != 0) = true then
 K (AV.tup [AV.sl none 0 0 true, AV.bool false]) ((hTgE2 l w r pt z))
 else (if (!boolV (some (AV.bool w)) == boolV (some (AV.bool false))) = true then
 K (AV.tup [AV.sl none 0 0 true, AV.bool false]) ((hTgE2 l w r pt z))
 else (if cdec (IsAdr (adF w z)) = true then
 (if (!opq (adrValid (adF w z))) = true then
 K (AV.tup [AV.sl none 0 0 true, AV.bool false]) ((hTgE2 l w r pt z))
 else (if (intV (some (int u16 pt)) == 0) = true then
 (if cdec (Says eClone [AV.sl (some (0, 0)) l.length 0 false] (hTgE2 l w r pt z) (AV.sl (some (3, 0)) l.length 0 false) (hTgE3 l w r pt z)) = true then
 (if cdec (Says eDst4 [AV.sl (some (0, 0 + (intV (some (int i64 0))).toNat * 1)) ((intV (some (int i64 0))).toNat - (intV (some (int i64 0))).toNat) (roomOf l.length 0 (intV (some (int i64 0))).toNat (some (intV (some (int i64 0)))).isNone (intV (some (int i64 0))).toNat false) false, AV.agg (adF w z)] (hTgE4 l w r pt z) (AV.sl (some (4, 0)) 0 0 false) (hTgE5 l w r pt z)) = true then
 (if cdec (Says ePort [b8 (intV (some (b8 0))), AV.sl (some (0, 0 + (intV (some (int i64 0))).toNat * 1)) ((intV (some (int i64 0))).toNat - (intV (some (int i64 0))).toNat) (roomOf l.length 0 (intV (some (int i64 0))).toNat (some (intV (some (int i64 0)))).isNone (intV (some (int i64 0))).toNat false) false, int u16 (intV (some (int u16 0))), AV.agg [AV.bool false, b8 0, b8 0, b8 0, b8 0, b8 0, b8 0, b8 0, b8 0, b8 0, b8 0, b8 0, b8 0, b8 0, b8 0, b8 0, b8 0], AV.agg (adF w z)] (hTgE6 l w r pt z) (AV.sl (some (5, 0)) 0 0 false) (hTgE5 l w r pt z)) = true then
 K (AV.tup [AV.sl (some (3, 0)) l.length 0 false, AV.bool true]) ((hTgE7 l w r pt z))
 else none) else none) else none)
 else (if cdec (Says eClone [AV.sl (some (0, 0)) l.length 0 false] (hTgE2 l w r pt z) (AV.sl (some (3, 0)) l.length 0 false) (hTgE3 l w r pt z)) = true then
 (if cdec (Says eDst4 [AV.sl (some (0, 0 + (intV (some (int i64 0))).toNat * 1)) ((intV (some (int i64 0))).toNat - (intV (some (int i64 0))).toNat) (roomOf l.length 0 (intV (some (int i64 0))).toNat (some (intV (some (int i64 0)))).isNone (intV (some (int i64 0))).toNat false) false, AV.agg (adF w z)] (hTgE4 l w r pt z) (AV.sl (some (4, 0)) 0 0 false) (hTgE5 l w r pt z)) = true then
 (if cdec (Says ePort [b8 (intV (some (b8 0))), AV.sl (some (0, 0 + (intV (some (int i64 0))).toNat * 1)) ((intV (some (int i64 0))).toNat - (intV (some (int i64 0))).toNat) (roomOf l.length 0 (intV (some (int i64 0))).toNat (some (intV (some (int i64 0)))).isNone (intV (some (int i64 0))).toNat false) false, int u16 (intV (some (int u16 pt))), AV.agg [AV.bool false, b8 0, b8 0, b8 0, b8 0, b8 0, b8 0, b8 0, b8 0, b8 0, b8 0, b8 0, b8 0, b8 0, b8 0, b8 0, b8 0], AV.agg (adF w z)] (hTgE6 l w r pt z) (AV.sl (some (5, 0)) 0 0 false) (hTgE5 l w r pt z)) = true then
 K (AV.tup [AV.sl (some (3, 0)) l.length 0 false, AV.bool true]) ((hTgE7 l w r pt z))
 else none) else none) else none)))
 else none)))
 else none) := by
  kernel_rfl


end Go.Proofs.Ytnchnjkakddhlaa.L
