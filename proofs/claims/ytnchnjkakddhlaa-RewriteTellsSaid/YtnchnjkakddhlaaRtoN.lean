/- The reference's To of any bytes: what the kernel makes of it. -/
import Derived.Test.YtnchnjkakddhlaaTgK
import Derived.Test.YtnchnjkakddhlaaRRead
import Derived.Test.YtnchnjkakddhlaaRVald
import Derived.Test.YtnchnjkakddhlaaFour2
import Derived.Test.YtnchnjkakddhlaaSix2
import Derived.Test.YtnchnjkakddhlaaPort
set_option autoImplicit false
set_option maxRecDepth 100000
set_option linter.unusedVariables false
set_option linter.unusedSimpArgs false
namespace Go.Proofs.Ytnchnjkakddhlaa.L
open Go Go.Abs
open Go.IntKind (u8 u16 u32 u64 i64)
open Go.Abs.AV (int)
open Go.Abs.ABlk (cells)

noncomputable def tRto (D S : List UInt8) (v : AV) : Tbl := [(15, entF (eSay eFrR [(2, v, [])])), (24, entF eValR), (27, entF (eSay eDst4 [(4, slB 4 D, [ownB D])])), (26, entF (eSay eDst6 [(4, slB 4 D, [ownB D])])),
  (25, entF (eSay eRPort [(3, slB 3 S, [ownB S])]))]
theorem tRtoOk (D S : List UInt8) (v : AV) : ∀ f E, (tRto D S v).find f = some E → SoundE Try.prog f E := find_cons (sSay sRRead _) (find_cons sRVald (find_cons (sSay sRDst4 _) (find_cons (sSay sRDst6 _) (find_cons (sSay sRPort _) (find_nil _)))))
noncomputable abbrev RTL := loopIn (bodyOf Try.prog 9) 0
def mRto : List Bool := List.replicate 6 false ++ List.replicate 1 true ++ List.replicate 2 false ++ List.replicate 1 true ++ List.replicate 1 false ++ List.replicate 2 true ++ List.replicate 87 false
def vRto (s n : Nat) (i : Int) : List AV := [.ptr (some (2, 0)), .sl (some (3, 0)) s 0 false, .sl (some (7, 0)) n 0 false, .int .i64 i]
def hRto (B0 B1 : ABlk) (V S : List AV) (B4 B6 : ABlk) (O : List AV) : AHeap := [B0, B1, .cells V 42 .own none, .cells S 1 .own none, B4, .dead, B6, .cells O 1 .own (some 6)]
def hRtoC (B0 B1 : ABlk) (V S : List AV) (B4 : ABlk) (O : List AV) : AHeap := [B0, B1, .cells V 42 .own none, .cells S 1 .own none, B4, .dead, .dead, .cells O 1 .own none]
noncomputable def hRtoa0 (B0 B1 : ABlk) (V S : List AV) (B4 : ABlk) (O : List AV) (s n : Nat) (i : Int) : AHeap := [B0, B1, ABlk.cells V 42 Md.own none, ABlk.cells S 1 Md.own none, B4, ABlk.dead, ABlk.dead, cells (putCells O (0 + (i64.wrap (intV V[2]? + i)).toNat * 1) [b8 (intV S[0 + i.toNat * 1]?)]) 1 Md.own none]
theorem nfRtoa (B0 B1 : ABlk) (V S : List AV) (B4 : ABlk) (O : List AV) (s n : Nat) (i : Int) :
 qround Try.prog [] 100 5 [(86, .bool true)] noT RTL mRto (vRto s n i) (hRtoC B0 B1 V S B4 O) =
 (if decide (i < (s : Int)) = true then
 (if isIntV i64 V[2]? = true then
 (if 0 ≤ i ∧ i < (s : Int) then
 (if isIntV u8 S[0 + i.toNat * 1]? = true then
 (if 0 ≤ i64.wrap (intV V[2]? + i) ∧ i64.wrap (intV V[2]? + i) < (n : Int) then
 (if 0 + (i64.wrap (intV V[2]? + i)).toNat * 1 + [b8 (intV S[0 + i.toNat * 1]?)].length ≤ O.length ∧ [b8 (intV S[0 + i.toNat * 1]?)].all AV.isCell = true then
 some ((AEx.norm, [AV.ptr (some (2, 0)), AV.sl (some (3, 0)) s 0 false, AV.sl (some (7, 0)) n 0 false, int i64 (i64.wrap (i + 1))], (hRtoa0 B0 B1 V S B4 O s n i)))
 else none) else none) else none) else none) else none) else none) := by
  kernel_rfl

noncomputable def hRtos0 (B0 B1 : ABlk) (V S : List AV) (B4 : ABlk) (O : List AV) (s n : Nat) (i : Int) : AHeap := ((hRtoa0 B0 B1 V S B4 O s n i).set 7 (ABlk.cells O 1 Md.own none))
theorem nfRtos (B0 B1 : ABlk) (V S : List AV) (B4 : ABlk) (O : List AV) (s n : Nat) (i : Int) :
 qround Try.prog [] 100 5 [(86, .bool false)] noT RTL mRto (vRto s n i) (hRtoC B0 B1 V S B4 O) =
 (if decide (i < (s : Int)) = false then
 some ((AEx.exit 0, [AV.ptr (some (2, 0)), AV.sl (some (3, 0)) s 0 false, AV.sl (some (7, 0)) n 0 false, int i64 i], (hRtos0 B0 B1 V S B4 O s n i)))
 else none) := by
  kernel_rfl

noncomputable def hRtoFF0 (q : Prop) (l D S O O2 : List UInt8) (R6 : List AV) (b : UInt8) (w wx wy : Bool) (N : Nat) (A G E p sp dp fl pt : Int) (x y z : Nat → Int) : AHeap := [cells (bys l) 1 Md.far none, cells (adP w z pt) 18 Md.own none]
noncomputable def hRtoFF1 (q : Prop) (l D S O O2 : List UInt8) (R6 : List AV) (b : UInt8) (w wx wy : Bool) (N : Nat) (A G E p sp dp fl pt : Int) (x y z : Nat → Int) : AHeap := []
noncomputable def hRtoFF2 (q : Prop) (l D S O O2 : List UInt8) (R6 : List AV) (b : UInt8) (w wx wy : Bool) (N : Nat) (A G E p sp dp fl pt : Int) (x y z : Nat → Int) : AHeap := [cells (bys l) 1 Md.far none, cells (adP w z pt) 18 Md.own none, cells (vwG false A G E p wx wy x y sp dp fl) 42 Md.own none]
noncomputable def hRtoFF3 (q : Prop) (l D S O O2 : List UInt8) (R6 : List AV) (b : UInt8) (w wx wy : Bool) (N : Nat) (A G E p sp dp fl pt : Int) (x y z : Nat → Int) : AHeap := [cells (bys S) 1 Md.own none]
noncomputable def hRtoFF4 (q : Prop) (l D S O O2 : List UInt8) (R6 : List AV) (b : UInt8) (w wx wy : Bool) (N : Nat) (A G E p sp dp fl pt : Int) (x y z : Nat → Int) : AHeap := (hRtoFF2 q l D S O O2 R6 b w wx wy N A G E p sp dp fl pt x y z) ++ [cells (bys S) 1 Md.own none]
noncomputable def hRtoFF5 (q : Prop) (l D S O O2 : List UInt8) (R6 : List AV) (b : UInt8) (w wx wy : Bool) (N : Nat) (A G E p sp dp fl pt : Int) (x y z : Nat → Int) : AHeap := [cells (bys (b :: D)) 1 Md.own none]
noncomputable def hRtoFF6 (q : Prop) (l D S O O2 : List UInt8) (R6 : List AV) (b : UInt8) (w wx wy : Bool) (N : Nat) (A G E p sp dp fl pt : Int) (x y z : Nat → Int) : AHeap := (hRtoFF4 q l D S O O2 R6 b w wx wy N A G E p sp dp fl pt x y z) ++ [cells (bys (b :: D)) 1 Md.own none, ABlk.dead, cells (List.take (((intV (some (int i64 A))).toNat - 0) * 1) (bys l)) 1 Md.ro none, cells (List.take ((0 + ((intV (some (int i64 A))).toNat - 0)) * 1) (List.take (((intV (some (int i64 A))).toNat - 0) * 1) (bys l)) ++ List.take ((b :: D).length * 1) (bys (b :: D))) 1 Md.own (some 6)]
noncomputable def hRtoFF7 (q : Prop) (l D S O O2 : List UInt8) (R6 : List AV) (b : UInt8) (w wx wy : Bool) (N : Nat) (A G E p sp dp fl pt : Int) (x y z : Nat → Int) : AHeap := (hRtoFF6 q l D S O O2 R6 b w wx wy N A G E p sp dp fl pt x y z).take 6 ++ [ABlk.cells R6 1 Md.ro none, cells (bys O) 1 Md.own (some 6)]
noncomputable def hRtoFF8 (q : Prop) (l D S O O2 : List UInt8) (R6 : List AV) (b : UInt8) (w wx wy : Bool) (N : Nat) (A G E p sp dp fl pt : Int) (x y z : Nat → Int) : AHeap := (hRtoFF6 q l D S O O2 R6 b w wx wy N A G E p sp dp fl pt x y z).take 6 ++ [ABlk.dead, cells (bys O2) 1 Md.own none]
theorem nfRtoFF {R : Type} (q : Prop) (l D S O O2 : List UInt8) (R6 : List AV) (b : UInt8) (w wx wy : Bool) (N : Nat) (A G E p sp dp fl pt : Int) (x y z : Nat → Int) (K : AV → AHeap → Option R) :
 qrun Try.prog (tRto (b :: D) S (.tup [.agg (viewOf false A G E p (adF wx x) (adF wy y) sp dp fl), .int .i64 0])) 100 5 [(33, .bool false), (38, .bool false)] [(14, fixC q mRto (vRto S.length N 0) (hRto (farB l) (.cells (adF w z ++ [.int .u16 pt]) 18 .own none) (viewOf false A G E p (adF wx x) (adF wy y) sp dp fl) (bys S) (ownB (b :: D)) (.cells R6 1 .ro none) (bys O)) (.exit 0) (vRto S.length N S.length) (hRtoC (farB l) (.cells (adF w z ++ [.int .u16 pt]) 18 .own none) (viewOf false A G E p (adF wx x) (adF wy y) sp dp fl) (bys S) (ownB (b :: D)) (bys O2)))] 9 [slB 0 l, .agg (adF w z ++ [.int .u16 pt])] [farB l] K =
 (if cdec (Says eFrR [AV.sl (some (0, 0)) l.length 0 false] (hRtoFF0 q l D S O O2 R6 b w wx wy N A G E p sp dp fl pt x y z) (AV.tup [AV.agg (vwG false A G E p wx wy x y sp dp fl), int i64 0]) (hRtoFF1 q l D S O O2 R6 b w wx wy N A G E p sp dp fl pt x y z)) = true then
 (if (!boolV (some (AV.bool w)) == boolV (some (AV.bool false))) = true then
 none
 else (if cdec (IsAdr (adF w z)) = true then
 (if (!opq (adrValid (adF w z))) = false then
 (if (i64.wrap (intV (some (int u16 pt))) == 0) = false then
 (if 0 ≤ intV (some (int i64 E)) ∧ intV (some (int i64 E)) ≤ (((capOf l.length 0 false) : Nat) : Int) then
 (if 0 ≤ intV (some (int i64 G)) ∧ intV (some (int i64 G)) ≤ intV (some (int i64 E)) then
 (if cdec (Says eRPort [b8 (intV (some (b8 p))), AV.sl (some (0, 0 + (intV (some (int i64 G))).toNat * 1)) ((intV (some (int i64 E))).toNat - (intV (some (int i64 G))).toNat) (roomOf l.length 0 (intV (some (int i64 G))).toNat (some (intV (some (int i64 E)))).isNone (intV (some (int i64 E))).toNat false) false, int i64 (i64.wrap (intV (some (int u16 pt)))), AV.agg (adF wy y), AV.agg (adF w z)] (hRtoFF2 q l D S O O2 R6 b w wx wy N A G E p sp dp fl pt x y z) (AV.sl (some (3, 0)) S.length 0 false) (hRtoFF3 q l D S O O2 R6 b w wx wy N A G E p sp dp fl pt x y z)) = true then
 (if 0 ≤ intV (some (int i64 A)) ∧ intV (some (int i64 A)) ≤ (l.length : Int) then
 (if cdec (Says eDst4 [AV.sl (some (0, 0 + (intV (some (int i64 A))).toNat * 1)) (l.length - (intV (some (int i64 A))).toNat) (roomOf l.length 0 (intV (some (int i64 A))).toNat true l.length false) false, AV.agg (adF w z)] (hRtoFF4 q l D S O O2 R6 b w wx wy N A G E p sp dp fl pt x y z) (AV.sl (some (4, 0)) (b :: D).length 0 false) (hRtoFF5 q l D S O O2 R6 b w wx wy N A G E p sp dp fl pt x y z)) = true then
 (if 0 ≤ intV (some (int i64 A)) ∧ intV (some (int i64 A)) ≤ (((capOf l.length 0 false) : Nat) : Int) then
 (if 0 + ((intV (some (int i64 A))).toNat - 0) * 1 ≤ (bys l).length then
 (if (2 * (0 + ((intV (some (int i64 A))).toNat - 0)) + 200) * 1 ≤ 281474976710656 ∧ some 1 = some 1 ∧ 0 + ((intV (some (int i64 A))).toNat - 0) ≤ 70368744177664 then
 (if 0 = 0 ∧ 0 = 0 ∧ (0 < (intV (some (int i64 A))).toNat - 0 ∨ 0 = 0) ∧ 1 = 1 ∧ (List.take (((intV (some (int i64 A))).toNat - 0) * 1) (bys l)).all AV.isCell = true then
 (if 0 + (b :: D).length * 1 ≤ (bys (b :: D)).length then
 (if (2 * (0 + ((intV (some (int i64 A))).toNat - 0) + (b :: D).length) + 200) * 1 ≤ 281474976710656 ∧ some 1 = some 1 ∧ 0 + ((intV (some (int i64 A))).toNat - 0) + (b :: D).length ≤ 70368744177664 then
 (if 0 + (0 + ((intV (some (int i64 A))).toNat - 0)) * 1 ≤ (List.take (((intV (some (int i64 A))).toNat - 0) * 1) (bys l)).length then
 (if 0 = 0 ∧ 0 + (0 + ((intV (some (int i64 A))).toNat - 0)) * 1 = (List.take (((intV (some (int i64 A))).toNat - 0) * 1) (bys l)).length ∧ (0 < (b :: D).length ∨ 0 = 0) ∧ 1 = 1 ∧ (List.take ((b :: D).length * 1) (bys (b :: D))).all AV.isCell = true then
 (if cdec (q ∧ [AV.ptr (some (2, 0)), AV.sl (some (3, 0)) S.length 0 false, AV.sl (some (7, 0)) (0 + ((intV (some (int i64 A))).toNat - 0) + (b :: D).length) 0 false, int i64 0] = [AV.ptr (some (2, 0)), AV.sl (some (3, 0)) S.length 0 false, AV.sl (some (7, 0)) N 0 false, int i64 0] ∧ (hRtoFF6 q l D S O O2 R6 b w wx wy N A G E p sp dp fl pt x y z) = (hRtoFF7 q l D S O O2 R6 b w wx wy N A G E p sp dp fl pt x y z)) = true then
 K (AV.tup [AV.sl (some (7, 0)) N 0 false, AV.bool true]) ((hRtoFF8 q l D S O O2 R6 b w wx wy N A G E p sp dp fl pt x y z))
 else none) else none) else none) else none) else none) else none) else none) else none) else none) else none) else none) else none) else none) else none) else none) else none) else none))
 else none) := by
  kernel_rfl

noncomputable def hRtoFT0 (q : Prop) (l D S O O2 : List UInt8) (R6 : List AV) (b : UInt8) (w wx wy : Bool) (N : Nat) (A G E p sp dp fl pt : Int) (x y z : Nat → Int) : AHeap := [cells (bys l) 1 Md.far none, cells (adP w z pt) 18 Md.own none]
noncomputable def hRtoFT1 (q : Prop) (l D S O O2 : List UInt8) (R6 : List AV) (b : UInt8) (w wx wy : Bool) (N : Nat) (A G E p sp dp fl pt : Int) (x y z : Nat → Int) : AHeap := []
noncomputable def hRtoFT2 (q : Prop) (l D S O O2 : List UInt8) (R6 : List AV) (b : UInt8) (w wx wy : Bool) (N : Nat) (A G E p sp dp fl pt : Int) (x y z : Nat → Int) : AHeap := (hRtoFF2 q l D S O O2 R6 b w wx wy N A G E p sp dp fl pt x y z)
noncomputable def hRtoFT3 (q : Prop) (l D S O O2 : List UInt8) (R6 : List AV) (b : UInt8) (w wx wy : Bool) (N : Nat) (A G E p sp dp fl pt : Int) (x y z : Nat → Int) : AHeap := [cells (bys S) 1 Md.own none]
noncomputable def hRtoFT4 (q : Prop) (l D S O O2 : List UInt8) (R6 : List AV) (b : UInt8) (w wx wy : Bool) (N : Nat) (A G E p sp dp fl pt : Int) (x y z : Nat → Int) : AHeap := (hRtoFF4 q l D S O O2 R6 b w wx wy N A G E p sp dp fl pt x y z)
noncomputable def hRtoFT5 (q : Prop) (l D S O O2 : List UInt8) (R6 : List AV) (b : UInt8) (w wx wy : Bool) (N : Nat) (A G E p sp dp fl pt : Int) (x y z : Nat → Int) : AHeap := [cells (bys (b :: D)) 1 Md.own none]
noncomputable def hRtoFT6 (q : Prop) (l D S O O2 : List UInt8) (R6 : List AV) (b : UInt8) (w wx wy : Bool) (N : Nat) (A G E p sp dp fl pt : Int) (x y z : Nat → Int) : AHeap := (hRtoFF6 q l D S O O2 R6 b w wx wy N A G E p sp dp fl pt x y z)
noncomputable def hRtoFT7 (q : Prop) (l D S O O2 : List UInt8) (R6 : List AV) (b : UInt8) (w wx wy : Bool) (N : Nat) (A G E p sp dp fl pt : Int) (x y z : Nat → Int) : AHeap := (hRtoFF7 q l D S O O2 R6 b w wx wy N A G E p sp dp fl pt x y z)
noncomputable def hRtoFT8 (q : Prop) (l D S O O2 : List UInt8) (R6 : List AV) (b : UInt8) (w wx wy : Bool) (N : Nat) (A G E p sp dp fl pt : Int) (x y z : Nat → Int) : AHeap := (hRtoFF8 q l D S O O2 R6 b w wx wy N A G E p sp dp fl pt x y z)
theorem nfRtoFT {R : Type} (q : Prop) (l D S O O2 : List UInt8) (R6 : List AV) (b : UInt8) (w wx wy : Bool) (N : Nat) (A G E p sp dp fl pt : Int) (x y z : Nat → Int) (K : AV → AHeap → Option R) :
 qrun Try.prog (tRto (b :: D) S (.tup [.agg (viewOf false A G E p (adF wx x) (adF wy y) sp dp fl), .int .i64 0])) 100 5 [(33, .bool false), (38, .bool true)] [(14, fixC q mRto (vRto S.length N 0) (hRto (farB l) (.cells (adF w z ++ [.int .u16 pt]) 18 .own none) (viewOf false A G E p (adF wx x) (adF wy y) sp dp fl) (bys S) (ownB (b :: D)) (.cells R6 1 .ro none) (bys O)) (.exit 0) (vRto S.length N S.length) (hRtoC (farB l) (.cells (adF w z ++ [.int .u16 pt]) 18 .own none) (viewOf false A G E p (adF wx x) (adF wy y) sp dp fl) (bys S) (ownB (b :: D)) (bys O2)))] 9 [slB 0 l, .agg (adF w z ++ [.int .u16 pt])] [farB l] K =
 (if cdec (Says eFrR [AV.sl (some (0, 0)) l.length 0 false] (hRtoFT0 q l D S O O2 R6 b w wx wy N A G E p sp dp fl pt x y z) (AV.tup [AV.agg (vwG false A G E p wx wy x y sp dp fl), int i64 0]) (hRtoFT1 q l D S O O2 R6 b w wx wy N A G E p sp dp fl pt x y z)) = true then
 (if (!boolV (some (AV.bool w)) == boolV (some (AV.bool false))) = true then
 none
 else (if cdec (IsAdr (adF w z)) = true then
 (if (!opq (adrValid (adF w z))) = false then
 (if (i64.wrap (intV (some (int u16 pt))) == 0) = true then
 (if 0 ≤ intV (some (int i64 E)) ∧ intV (some (int i64 E)) ≤ (((capOf l.length 0 false) : Nat) : Int) then
 (if 0 ≤ intV (some (int i64 G)) ∧ intV (some (int i64 G)) ≤ intV (some (int i64 E)) then
 (if cdec (Says eRPort [b8 (intV (some (b8 p))), AV.sl (some (0, 0 + (intV (some (int i64 G))).toNat * 1)) ((intV (some (int i64 E))).toNat - (intV (some (int i64 G))).toNat) (roomOf l.length 0 (intV (some (int i64 G))).toNat (some (intV (some (int i64 E)))).isNone (intV (some (int i64 E))).toNat false) false, int i64 (i64.wrap (intV (some (int u16 dp)))), AV.agg (adF wy y), AV.agg (adF w z)] (hRtoFT2 q l D S O O2 R6 b w wx wy N A G E p sp dp fl pt x y z) (AV.sl (some (3, 0)) S.length 0 false) (hRtoFT3 q l D S O O2 R6 b w wx wy N A G E p sp dp fl pt x y z)) = true then
 (if 0 ≤ intV (some (int i64 A)) ∧ intV (some (int i64 A)) ≤ (l.length : Int) then
 (if cdec (Says eDst4 [AV.sl (some (0, 0 + (intV (some (int i64 A))).toNat * 1)) (l.length - (intV (some (int i64 A))).toNat) (roomOf l.length 0 (intV (some (int i64 A))).toNat true l.length false) false, AV.agg (adF w z)] (hRtoFT4 q l D S O O2 R6 b w wx wy N A G E p sp dp fl pt x y z) (AV.sl (some (4, 0)) (b :: D).length 0 false) (hRtoFT5 q l D S O O2 R6 b w wx wy N A G E p sp dp fl pt x y z)) = true then
 (if 0 ≤ intV (some (int i64 A)) ∧ intV (some (int i64 A)) ≤ (((capOf l.length 0 false) : Nat) : Int) then
 (if 0 + ((intV (some (int i64 A))).toNat - 0) * 1 ≤ (bys l).length then
 (if (2 * (0 + ((intV (some (int i64 A))).toNat - 0)) + 200) * 1 ≤ 281474976710656 ∧ some 1 = some 1 ∧ 0 + ((intV (some (int i64 A))).toNat - 0) ≤ 70368744177664 then
 (if 0 = 0 ∧ 0 = 0 ∧ (0 < (intV (some (int i64 A))).toNat - 0 ∨ 0 = 0) ∧ 1 = 1 ∧ (List.take (((intV (some (int i64 A))).toNat - 0) * 1) (bys l)).all AV.isCell = true then
 (if 0 + (b :: D).length * 1 ≤ (bys (b :: D)).length then
 (if (2 * (0 + ((intV (some (int i64 A))).toNat - 0) + (b :: D).length) + 200) * 1 ≤ 281474976710656 ∧ some 1 = some 1 ∧ 0 + ((intV (some (int i64 A))).toNat - 0) + (b :: D).length ≤ 70368744177664 then
 (if 0 + (0 + ((intV (some (int i64 A))).toNat - 0)) * 1 ≤ (List.take (((intV (some (int i64 A))).toNat - 0) * 1) (bys l)).length then
 (if 0 = 0 ∧ 0 + (0 + ((intV (some (int i64 A))).toNat - 0)) * 1 = (List.take (((intV (some (int i64 A))).toNat - 0) * 1) (bys l)).length ∧ (0 < (b :: D).length ∨ 0 = 0) ∧ 1 = 1 ∧ (List.take ((b :: D).length * 1) (bys (b :: D))).all AV.isCell = true then
 (if cdec (q ∧ [AV.ptr (some (2, 0)), AV.sl (some (3, 0)) S.length 0 false, AV.sl (some (7, 0)) (0 + ((intV (some (int i64 A))).toNat - 0) + (b :: D).length) 0 false, int i64 0] = [AV.ptr (some (2, 0)), AV.sl (some (3, 0)) S.length 0 false, AV.sl (some (7, 0)) N 0 false, int i64 0] ∧ (hRtoFT6 q l D S O O2 R6 b w wx wy N A G E p sp dp fl pt x y z) = (hRtoFT7 q l D S O O2 R6 b w wx wy N A G E p sp dp fl pt x y z)) = true then
 K (AV.tup [AV.sl (some (7, 0)) N 0 false, AV.bool true]) ((hRtoFT8 q l D S O O2 R6 b w wx wy N A G E p sp dp fl pt x y z))
 else none) else none) else none) else none) else none) else none) else none) else none) else none) else none) else none) else none) else none) else none) else none) else none) else none))
 else none) := by
  kernel_rfl

noncomputable def hRtoTF0 (q : Prop) (l D S O O2 : List UInt8) (R6 : List AV) (b : UInt8) (w wx wy : Bool) (N : Nat) (A G E p sp dp fl pt : Int) (x y z : Nat → Int) : AHeap := [cells (bys l) 1 Md.far none, cells (adP w z pt) 18 Md.own none]
noncomputable def hRtoTF1 (q : Prop) (l D S O O2 : List UInt8) (R6 : List AV) (b : UInt8) (w wx wy : Bool) (N : Nat) (A G E p sp dp fl pt : Int) (x y z : Nat → Int) : AHeap := []
noncomputable def hRtoTF2 (q : Prop) (l D S O O2 : List UInt8) (R6 : List AV) (b : UInt8) (w wx wy : Bool) (N : Nat) (A G E p sp dp fl pt : Int) (x y z : Nat → Int) : AHeap := [cells (bys l) 1 Md.far none, cells (adP w z pt) 18 Md.own none, cells (vwG true A G E p wx wy x y sp dp fl) 42 Md.own none]
noncomputable def hRtoTF3 (q : Prop) (l D S O O2 : List UInt8) (R6 : List AV) (b : UInt8) (w wx wy : Bool) (N : Nat) (A G E p sp dp fl pt : Int) (x y z : Nat → Int) : AHeap := [cells (bys S) 1 Md.own none]
noncomputable def hRtoTF4 (q : Prop) (l D S O O2 : List UInt8) (R6 : List AV) (b : UInt8) (w wx wy : Bool) (N : Nat) (A G E p sp dp fl pt : Int) (x y z : Nat → Int) : AHeap := (hRtoTF2 q l D S O O2 R6 b w wx wy N A G E p sp dp fl pt x y z) ++ [cells (bys S) 1 Md.own none]
noncomputable def hRtoTF5 (q : Prop) (l D S O O2 : List UInt8) (R6 : List AV) (b : UInt8) (w wx wy : Bool) (N : Nat) (A G E p sp dp fl pt : Int) (x y z : Nat → Int) : AHeap := [cells (bys (b :: D)) 1 Md.own none]
noncomputable def hRtoTF6 (q : Prop) (l D S O O2 : List UInt8) (R6 : List AV) (b : UInt8) (w wx wy : Bool) (N : Nat) (A G E p sp dp fl pt : Int) (x y z : Nat → Int) : AHeap := ((hRtoFF6 q l D S O O2 R6 b w wx wy N A G E p sp dp fl pt x y z).set 2 (cells (vwG true A G E p wx wy x y sp dp fl) 42 Md.own none))
noncomputable def hRtoTF7 (q : Prop) (l D S O O2 : List UInt8) (R6 : List AV) (b : UInt8) (w wx wy : Bool) (N : Nat) (A G E p sp dp fl pt : Int) (x y z : Nat → Int) : AHeap := ((hRtoFF7 q l D S O O2 R6 b w wx wy N A G E p sp dp fl pt x y z).set 2 (cells (vwG true A G E p wx wy x y sp dp fl) 42 Md.own none))
noncomputable def hRtoTF8 (q : Prop) (l D S O O2 : List UInt8) (R6 : List AV) (b : UInt8) (w wx wy : Bool) (N : Nat) (A G E p sp dp fl pt : Int) (x y z : Nat → Int) : AHeap := (hRtoTF6 q l D S O O2 R6 b w wx wy N A G E p sp dp fl pt x y z).take 6 ++ [ABlk.dead, cells (bys O2) 1 Md.own none]
theorem nfRtoTF {R : Type} (q : Prop) (l D S O O2 : List UInt8) (R6 : List AV) (b : UInt8) (w wx wy : Bool) (N : Nat) (A G E p sp dp fl pt : Int) (x y z : Nat → Int) (K : AV → AHeap → Option R) :
 qrun Try.prog (tRto (b :: D) S (.tup [.agg (viewOf true A G E p (adF wx x) (adF wy y) sp dp fl), .int .i64 0])) 100 5 [(33, .bool false), (38, .bool false)] [(14, fixC q mRto (vRto S.length N 0) (hRto (farB l) (.cells (adF w z ++ [.int .u16 pt]) 18 .own none) (viewOf true A G E p (adF wx x) (adF wy y) sp dp fl) (bys S) (ownB (b :: D)) (.cells R6 1 .ro none) (bys O)) (.exit 0) (vRto S.length N S.length) (hRtoC (farB l) (.cells (adF w z ++ [.int .u16 pt]) 18 .own none) (viewOf true A G E p (adF wx x) (adF wy y) sp dp fl) (bys S) (ownB (b :: D)) (bys O2)))] 9 [slB 0 l, .agg (adF w z ++ [.int .u16 pt])] [farB l] K =
 (if cdec (Says eFrR [AV.sl (some (0, 0)) l.length 0 false] (hRtoTF0 q l D S O O2 R6 b w wx wy N A G E p sp dp fl pt x y z) (AV.tup [AV.agg (vwG true A G E p wx wy x y sp dp fl), int i64 0]) (hRtoTF1 q l D S O O2 R6 b w wx wy N A G E p sp dp fl pt x y z)) = true then
 (if (!boolV (some (AV.bool w)) == boolV (some (AV.bool true))) = true then
 none
 else (if cdec (IsAdr (adF w z)) = true then
 (if (!opq (adrValid (adF w z))) = false then
 (if (i64.wrap (intV (some (int u16 pt))) == 0) = false then
 (if 0 ≤ intV (some (int i64 E)) ∧ intV (some (int i64 E)) ≤ (((capOf l.length 0 false) : Nat) : Int) then
 (if 0 ≤ intV (some (int i64 G)) ∧ intV (some (int i64 G)) ≤ intV (some (int i64 E)) then
 (if cdec (Says eRPort [b8 (intV (some (b8 p))), AV.sl (some (0, 0 + (intV (some (int i64 G))).toNat * 1)) ((intV (some (int i64 E))).toNat - (intV (some (int i64 G))).toNat) (roomOf l.length 0 (intV (some (int i64 G))).toNat (some (intV (some (int i64 E)))).isNone (intV (some (int i64 E))).toNat false) false, int i64 (i64.wrap (intV (some (int u16 pt)))), AV.agg (adF wy y), AV.agg (adF w z)] (hRtoTF2 q l D S O O2 R6 b w wx wy N A G E p sp dp fl pt x y z) (AV.sl (some (3, 0)) S.length 0 false) (hRtoTF3 q l D S O O2 R6 b w wx wy N A G E p sp dp fl pt x y z)) = true then
 (if 0 ≤ intV (some (int i64 A)) ∧ intV (some (int i64 A)) ≤ (l.length : Int) then
 (if cdec (Says eDst6 [AV.sl (some (0, 0 + (intV (some (int i64 A))).toNat * 1)) (l.length - (intV (some (int i64 A))).toNat) (roomOf l.length 0 (intV (some (int i64 A))).toNat true l.length false) false, AV.agg (adF w z)] (hRtoTF4 q l D S O O2 R6 b w wx wy N A G E p sp dp fl pt x y z) (AV.sl (some (4, 0)) (b :: D).length 0 false) (hRtoTF5 q l D S O O2 R6 b w wx wy N A G E p sp dp fl pt x y z)) = true then
 (if 0 ≤ intV (some (int i64 A)) ∧ intV (some (int i64 A)) ≤ (((capOf l.length 0 false) : Nat) : Int) then
 (if 0 + ((intV (some (int i64 A))).toNat - 0) * 1 ≤ (bys l).length then
 (if (2 * (0 + ((intV (some (int i64 A))).toNat - 0)) + 200) * 1 ≤ 281474976710656 ∧ some 1 = some 1 ∧ 0 + ((intV (some (int i64 A))).toNat - 0) ≤ 70368744177664 then
 (if 0 = 0 ∧ 0 = 0 ∧ (0 < (intV (some (int i64 A))).toNat - 0 ∨ 0 = 0) ∧ 1 = 1 ∧ (List.take (((intV (some (int i64 A))).toNat - 0) * 1) (bys l)).all AV.isCell = true then
 (if 0 + (b :: D).length * 1 ≤ (bys (b :: D)).length then
 (if (2 * (0 + ((intV (some (int i64 A))).toNat - 0) + (b :: D).length) + 200) * 1 ≤ 281474976710656 ∧ some 1 = some 1 ∧ 0 + ((intV (some (int i64 A))).toNat - 0) + (b :: D).length ≤ 70368744177664 then
 (if 0 + (0 + ((intV (some (int i64 A))).toNat - 0)) * 1 ≤ (List.take (((intV (some (int i64 A))).toNat - 0) * 1) (bys l)).length then
 (if 0 = 0 ∧ 0 + (0 + ((intV (some (int i64 A))).toNat - 0)) * 1 = (List.take (((intV (some (int i64 A))).toNat - 0) * 1) (bys l)).length ∧ (0 < (b :: D).length ∨ 0 = 0) ∧ 1 = 1 ∧ (List.take ((b :: D).length * 1) (bys (b :: D))).all AV.isCell = true then
 (if cdec (q ∧ [AV.ptr (some (2, 0)), AV.sl (some (3, 0)) S.length 0 false, AV.sl (some (7, 0)) (0 + ((intV (some (int i64 A))).toNat - 0) + (b :: D).length) 0 false, int i64 0] = [AV.ptr (some (2, 0)), AV.sl (some (3, 0)) S.length 0 false, AV.sl (some (7, 0)) N 0 false, int i64 0] ∧ (hRtoTF6 q l D S O O2 R6 b w wx wy N A G E p sp dp fl pt x y z) = (hRtoTF7 q l D S O O2 R6 b w wx wy N A G E p sp dp fl pt x y z)) = true then
 K (AV.tup [AV.sl (some (7, 0)) N 0 false, AV.bool true]) ((hRtoTF8 q l D S O O2 R6 b w wx wy N A G E p sp dp fl pt x y z))
 else none) else none) else none) else none) else none) else none) else none) else none) else none) else none) else none) else none) else none) else none) else none) else none) else none))
 else none) := by
  kernel_rfl

noncomputable def hRtoTT0 (q : Prop) (l D S O O2 : List UInt8) (R6 : List AV) (b : UInt8) (w wx wy : Bool) (N : Nat) (A G E p sp dp fl pt : Int) (x y z : Nat → Int) : AHeap := [cells (bys l) 1 Md.far none, cells (adP w z pt) 18 Md.own none]
noncomputable def hRtoTT1 (q : Prop) (l D S O O2 : List UInt8) (R6 : List AV) (b : UInt8) (w wx wy : Bool) (N : Nat) (A G E p sp dp fl pt : Int) (x y z : Nat → Int) : AHeap := []
noncomputable def hRtoTT2 (q : Prop) (l D S O O2 : List UInt8) (R6 : List AV) (b : UInt8) (w wx wy : Bool) (N : Nat) (A G E p sp dp fl pt : Int) (x y z : Nat → Int) : AHeap := (hRtoTF2 q l D S O O2 R6 b w wx wy N A G E p sp dp fl pt x y z)
noncomputable def hRtoTT3 (q : Prop) (l D S O O2 : List UInt8) (R6 : List AV) (b : UInt8) (w wx wy : Bool) (N : Nat) (A G E p sp dp fl pt : Int) (x y z : Nat → Int) : AHeap := [cells (bys S) 1 Md.own none]
noncomputable def hRtoTT4 (q : Prop) (l D S O O2 : List UInt8) (R6 : List AV) (b : UInt8) (w wx wy : Bool) (N : Nat) (A G E p sp dp fl pt : Int) (x y z : Nat → Int) : AHeap := (hRtoTF4 q l D S O O2 R6 b w wx wy N A G E p sp dp fl pt x y z)
noncomputable def hRtoTT5 (q : Prop) (l D S O O2 : List UInt8) (R6 : List AV) (b : UInt8) (w wx wy : Bool) (N : Nat) (A G E p sp dp fl pt : Int) (x y z : Nat → Int) : AHeap := [cells (bys (b :: D)) 1 Md.own none]
noncomputable def hRtoTT6 (q : Prop) (l D S O O2 : List UInt8) (R6 : List AV) (b : UInt8) (w wx wy : Bool) (N : Nat) (A G E p sp dp fl pt : Int) (x y z : Nat → Int) : AHeap := (hRtoTF6 q l D S O O2 R6 b w wx wy N A G E p sp dp fl pt x y z)
noncomputable def hRtoTT7 (q : Prop) (l D S O O2 : List UInt8) (R6 : List AV) (b : UInt8) (w wx wy : Bool) (N : Nat) (A G E p sp dp fl pt : Int) (x y z : Nat → Int) : AHeap := (hRtoTF7 q l D S O O2 R6 b w wx wy N A G E p sp dp fl pt x y z)
noncomputable def hRtoTT8 (q : Prop) (l D S O O2 : List UInt8) (R6 : List AV) (b : UInt8) (w wx wy : Bool) (N : Nat) (A G E p sp dp fl pt : Int) (x y z : Nat → Int) : AHeap := (hRtoTF8 q l D S O O2 R6 b w wx wy N A G E p sp dp fl pt x y z)
theorem nfRtoTT {R : Type} (q : Prop) (l D S O O2 : List UInt8) (R6 : List AV) (b : UInt8) (w wx wy : Bool) (N : Nat) (A G E p sp dp fl pt : Int) (x y z : Nat → Int) (K : AV → AHeap → Option R) :
 qrun Try.prog (tRto (b :: D) S (.tup [.agg (viewOf true A G E p (adF wx x) (adF wy y) sp dp fl), .int .i64 0])) 100 5 [(33, .bool false), (38, .bool true)] [(14, fixC q mRto (vRto S.length N 0) (hRto (farB l) (.cells (adF w z ++ [.int .u16 pt]) 18 .own none) (viewOf true A G E p (adF wx x) (adF wy y) sp dp fl) (bys S) (ownB (b :: D)) (.cells R6 1 .ro none) (bys O)) (.exit 0) (vRto S.length N S.length) (hRtoC (farB l) (.cells (adF w z ++ [.int .u16 pt]) 18 .own none) (viewOf true A G E p (adF wx x) (adF wy y) sp dp fl) (bys S) (ownB (b :: D)) (bys O2)))] 9 [slB 0 l, .agg (adF w z ++ [.int .u16 pt])] [farB l] K =
 (if cdec (Says eFrR [AV.sl (some (0, 0)) l.length 0 false] (hRtoTT0 q l D S O O2 R6 b w wx wy N A G E p sp dp fl pt x y z) (AV.tup [AV.agg (vwG true A G E p wx wy x y sp dp fl), int i64 0]) (hRtoTT1 q l D S O O2 R6 b w wx wy N A G E p sp dp fl pt x y z)) = true then
 (if (!boolV (some (AV.bool w)) == boolV (some (AV.bool true))) = true then
 none
 else (if cdec (IsAdr (adF w z)) = true then
 (if (!opq (adrValid (adF w z))) = false then
 (if (i64.wrap (intV (some (int u16 pt))) == 0) = true then
 (if 0 ≤ intV (some (int i64 E)) ∧ intV (some (int i64 E)) ≤ (((capOf l.length 0 false) : Nat) : Int) then
 (if 0 ≤ intV (some (int i64 G)) ∧ intV (some (int i64 G)) ≤ intV (some (int i64 E)) then
 (if cdec (Says eRPort [b8 (intV (some (b8 p))), AV.sl (some (0, 0 + (intV (some (int i64 G))).toNat * 1)) ((intV (some (int i64 E))).toNat - (intV (some (int i64 G))).toNat) (roomOf l.length 0 (intV (some (int i64 G))).toNat (some (intV (some (int i64 E)))).isNone (intV (some (int i64 E))).toNat false) false, int i64 (i64.wrap (intV (some (int u16 dp)))), AV.agg (adF wy y), AV.agg (adF w z)] (hRtoTT2 q l D S O O2 R6 b w wx wy N A G E p sp dp fl pt x y z) (AV.sl (some (3, 0)) S.length 0 false) (hRtoTT3 q l D S O O2 R6 b w wx wy N A G E p sp dp fl pt x y z)) = true then
 (if 0 ≤ intV (some (int i64 A)) ∧ intV (some (int i64 A)) ≤ (l.length : Int) then
 (if cdec (Says eDst6 [AV.sl (some (0, 0 + (intV (some (int i64 A))).toNat * 1)) (l.length - (intV (some (int i64 A))).toNat) (roomOf l.length 0 (intV (some (int i64 A))).toNat true l.length false) false, AV.agg (adF w z)] (hRtoTT4 q l D S O O2 R6 b w wx wy N A G E p sp dp fl pt x y z) (AV.sl (some (4, 0)) (b :: D).length 0 false) (hRtoTT5 q l D S O O2 R6 b w wx wy N A G E p sp dp fl pt x y z)) = true then
 (if 0 ≤ intV (some (int i64 A)) ∧ intV (some (int i64 A)) ≤ (((capOf l.length 0 false) : Nat) : Int) then
 (if 0 + ((intV (some (int i64 A))).toNat - 0) * 1 ≤ (bys l).length then
 (if (2 * (0 + ((intV (some (int i64 A))).toNat - 0)) + 200) * 1 ≤ 281474976710656 ∧ some 1 = some 1 ∧ 0 + ((intV (some (int i64 A))).toNat - 0) ≤ 70368744177664 then
 (if 0 = 0 ∧ 0 = 0 ∧ (0 < (intV (some (int i64 A))).toNat - 0 ∨ 0 = 0) ∧ 1 = 1 ∧ (List.take (((intV (some (int i64 A))).toNat - 0) * 1) (bys l)).all AV.isCell = true then
 (if 0 + (b :: D).length * 1 ≤ (bys (b :: D)).length then
 (if (2 * (0 + ((intV (some (int i64 A))).toNat - 0) + (b :: D).length) + 200) * 1 ≤ 281474976710656 ∧ some 1 = some 1 ∧ 0 + ((intV (some (int i64 A))).toNat - 0) + (b :: D).length ≤ 70368744177664 then
 (if 0 + (0 + ((intV (some (int i64 A))).toNat - 0)) * 1 ≤ (List.take (((intV (some (int i64 A))).toNat - 0) * 1) (bys l)).length then
 (if 0 = 0 ∧ 0 + (0 + ((intV (some (int i64 A))).toNat - 0)) * 1 = (List.take (((intV (some (int i64 A))).toNat - 0) * 1) (bys l)).length ∧ (0 < (b :: D).length ∨ 0 = 0) ∧ 1 = 1 ∧ (List.take ((b :: D).length * 1) (bys (b :: D))).all AV.isCell = true then
 (if cdec (q ∧ [AV.ptr (some (2, 0)), AV.sl (some (3, 0)) S.length 0 false, AV.sl (some (7, 0)) (0 + ((intV (some (int i64 A))).toNat - 0) + (b :: D).length) 0 false, int i64 0] = [AV.ptr (some (2, 0)), AV.sl (some (3, 0)) S.length 0 false, AV.sl (some (7, 0)) N 0 false, int i64 0] ∧ (hRtoTT6 q l D S O O2 R6 b w wx wy N A G E p sp dp fl pt x y z) = (hRtoTT7 q l D S O O2 R6 b w wx wy N A G E p sp dp fl pt x y z)) = true then
 K (AV.tup [AV.sl (some (7, 0)) N 0 false, AV.bool true]) ((hRtoTT8 q l D S O O2 R6 b w wx wy N A G E p sp dp fl pt x y z))
 else none) else none) else none) else none) else none) else none) else none) else none) else none) else none) else none) else none) else none) else none) else none) else none) else none))
 else none) := by
  kernel_rfl

noncomputable def hRtoBF0 (l : List UInt8) (w wx wy : Bool) (A G E p sp dp fl pt : Int) (x y z : Nat → Int) : AHeap := [cells (bys l) 1 Md.far none, cells (adP w z pt) 18 Md.own none]
noncomputable def hRtoBF1 (l : List UInt8) (w wx wy : Bool) (A G E p sp dp fl pt : Int) (x y z : Nat → Int) : AHeap := []
noncomputable def hRtoBF2 (l : List UInt8) (w wx wy : Bool) (A G E p sp dp fl pt : Int) (x y z : Nat → Int) : AHeap := (hRtoBF0 l w wx wy A G E p sp dp fl pt x y z) ++ [cells (vwG false A G E p wx wy x y sp dp fl) 42 Md.own none]
theorem nfRtoBF {R : Type} (l : List UInt8) (w wx wy : Bool) (A G E p sp dp fl pt : Int) (x y z : Nat → Int) (K : AV → AHeap → Option R) :
 qrun Try.prog (tRto [] [] (.tup [.agg (viewOf false A G E p (adF wx x) (adF wy y) sp dp fl), .int .i64 0])) 100 5 [(33, .bool true)] [] 9 [slB 0 l, .agg (adF w z ++ [.int .u16 pt])] [farB l] K =
 (if cdec (Says eFrR [AV.sl (some (0, 0)) l.length 0 false] (hRtoBF0 l w wx wy A G E p sp dp fl pt x y z) (AV.tup [AV.agg (vwG false A G E p wx wy x y sp dp fl), int i64 0]) (hRtoBF1 l w wx wy A G E p sp dp fl pt x y z)) = true then
 (if (!boolV (some (AV.bool w)) == boolV (some (AV.bool false))) = true then
 K (AV.tup [AV.sl none 0 0 true, AV.bool false]) ((hRtoBF2 l w wx wy A G E p sp dp fl pt x y z))
 else (if cdec (IsAdr (adF w z)) = true then
 (if (!opq (adrValid (adF w z))) = true then
 K (AV.tup [AV.sl none 0 0 true, AV.bool false]) ((hRtoBF2 l w wx wy A G E p sp dp fl pt x y z))
 else none) else none))
 else none) := by
  kernel_rfl

noncomputable def hRtoBT0 (l : List UInt8) (w wx wy : Bool) (A G E p sp dp fl pt : Int) (x y z : Nat → Int) : AHeap := (hRtoBF0 l w wx wy A G E p sp dp fl pt x y z)
noncomputable def hRtoBT1 (l : List UInt8) (w wx wy : Bool) (A G E p sp dp fl pt : Int) (x y z : Nat → Int) : AHeap := []
noncomputable def hRtoBT2 (l : List UInt8) (w wx wy : Bool) (A G E p sp dp fl pt : Int) (x y z : Nat → Int) : AHeap := (hRtoBF0 l w wx wy A G E p sp dp fl pt x y z) ++ [cells (vwG true A G E p wx wy x y sp dp fl) 42 Md.own none]
theorem nfRtoBT {R : Type} (l : List UInt8) (w wx wy : Bool) (A G E p sp dp fl pt : Int) (x y z : Nat → Int) (K : AV → AHeap → Option R) :
 qrun Try.prog (tRto [] [] (.tup [.agg (viewOf true A G E p (adF wx x) (adF wy y) sp dp fl), .int .i64 0])) 100 5 [(33, .bool true)] [] 9 [slB 0 l, .agg (adF w z ++ [.int .u16 pt])] [farB l] K =
 (if cdec (Says eFrR [AV.sl (some (0, 0)) l.length 0 false] (hRtoBT0 l w wx wy A G E p sp dp fl pt x y z) (AV.tup [AV.agg (vwG true A G E p wx wy x y sp dp fl), int i64 0]) (hRtoBT1 l w wx wy A G E p sp dp fl pt x y z)) = true then
 (if (!boolV (some (AV.bool w)) == boolV (some (AV.bool true))) = true then
 K (AV.tup [AV.sl none 0 0 true, AV.bool false]) ((hRtoBT2 l w wx wy A G E p sp dp fl pt x y z))
 else (if cdec (IsAdr (adF w z)) = true then
 (if (!opq (adrValid (adF w z))) = true then
 K (AV.tup [AV.sl none 0 0 true, AV.bool false]) ((hRtoBT2 l w wx wy A G E p sp dp fl pt x y z))
 else none) else none))
 else none) := by
  kernel_rfl

noncomputable def hRtoE0 (l : List UInt8) (w : Bool) (r pt : Int) (z : Nat → Int) : AHeap := [cells (bys l) 1 Md.far none, cells (adP w z pt) 18 Md.own none]
noncomputable def hRtoE1 (l : List UInt8) (w : Bool) (r pt : Int) (z : Nat → Int) : AHeap := []
noncomputable def hRtoE2 (l : List UInt8) (w : Bool) (r pt : Int) (z : Nat → Int) : AHeap := (hRtoE0 l w r pt z) ++ [cells [AV.bool false, int i64 0, int i64 0, int i64 0, b8 0, AV.bool false, b8 0, b8 0, b8 0, b8 0, b8 0, b8 0, b8 0, b8 0, b8 0, b8 0, b8 0, b8 0, b8 0, b8 0, b8 0, b8 0, AV.bool false, b8 0, b8 0, b8 0, b8 0, b8 0, b8 0, b8 0, b8 0, b8 0, b8 0, b8 0, b8 0, b8 0, b8 0, b8 0, b8 0, int u16 0, int u16 0, b8 0] 42 Md.own none]
theorem nfRtoE {R : Type} (l : List UInt8) (w : Bool) (r pt : Int) (z : Nat → Int) (K : AV → AHeap → Option R) :
 qrun Try.prog (tRto [] [] (.tup [.agg view0, .int .i64 r])) 100 5 [(33, .bool true)] [] 9 [slB 0 l, .agg (adF w z ++ [.int .u16 pt])] [farB l] K =
 (if cdec (Says eFrR [AV.sl (some (0, 0)) l.length 0 false] (hRtoE0 l w r pt z) (AV.tup [AV.agg view0, int i64 r]) (hRtoE1 l w r pt z)) = true then
 (if (r != 0) = true then
 K (AV.tup [AV.sl none 0 0 true, AV.bool false]) ((hRtoE2 l w r pt z))
 else (if (!boolV (some (AV.bool w)) == boolV (some (AV.bool false))) = true then
 K (AV.tup [AV.sl none 0 0 true, AV.bool false]) ((hRtoE2 l w r pt z))
 else (if cdec (IsAdr (adF w z)) = true then
 (if (!opq (adrValid (adF w z))) = true then
 K (AV.tup [AV.sl none 0 0 true, AV.bool false]) ((hRtoE2 l w r pt z))
 else none) else none)))
 else none) := by
  kernel_rfl


end Go.Proofs.Ytnchnjkakddhlaa.L
