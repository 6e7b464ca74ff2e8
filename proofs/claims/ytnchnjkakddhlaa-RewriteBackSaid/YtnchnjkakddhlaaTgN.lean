/- rewrite.To of any bytes: what the kernel makes of it. -/
import Derived.Test.YtnchnjkakddhlaaToW
import Derived.Test.YtnchnjkakddhlaaPVal
set_option autoImplicit false
set_option maxRecDepth 100000
set_option linter.unusedVariables false
set_option linter.unusedSimpArgs false
namespace Go.Proofs.Ytnchnjkakddhlaa.L
open Go Go.Abs
open Go.IntKind (u8 u16 u32 u64 i64)
open Go.Abs.AV (int)
open Go.Abs.ABlk (cells)

def adF (w : Bool) (x : Nat → Int) : List AV := zbx w (x 0) (x 1) (x 2) (x 3) (x 4) (x 5) (x 6) (x 7) (x 8) (x 9) (x 10) (x 11) (x 12) (x 13) (x 14) (x 15)
theorem zbK {cs : List AV} (h : zas cs = true) : ∃ w x, cs = adF w x := by
 obtain ⟨w, x0, x1, x2, x3, x4, x5, x6, x7, x8, x9, x10, x11, x12, x13, x14, x15, rfl, _⟩ := zfK h
 exact ⟨w, fun i => [x0, x1, x2, x3, x4, x5, x6, x7, x8, x9, x10, x11, x12, x13, x14, x15].getD i 0, rfl⟩
def adP (w : Bool) (x : Nat → Int) (pt : Int) : List AV := adF w x ++ [.int .u16 pt]
def vwG (v : Bool) (A G E p : Int) (wx wy : Bool) (x y : Nat → Int) (sp dp fl : Int) : List AV := zaO v A G E p (adF wx x) (adF wy y) sp dp fl
noncomputable def tTg (l D S : List UInt8) (v : AV) : Tbl := [(18, zbj (zgo zk7 [(2, v, [])])), (19, zbj zxS), (22, zbj (zgo zdB [(3, slB 3 l, [zbo l]), (4, slB 4 l, [zbo l]), (5, slB 5 l, [zbo l]), (6, slB 6 l, [zbo l]), (7, slB 7 l, [zbo l]), (8, slB 8 l, [zbo l])])), (20, zbj (zgo zmA [(4, slB 4 D, [zbo D]), (5, slB 5 D, [zbo D]), (6, slB 6 D, [zbo D]), (7, slB 7 D, [zbo D]), (8, slB 8 D, [zbo D]), (9, slB 9 D, [zbo D])])), (21, zbj (zgo zoW [(4, slB 4 D, [zbo D]), (5, slB 5 D, [zbo D]), (6, slB 6 D, [zbo D]), (7, slB 7 D, [zbo D]), (8, slB 8 D, [zbo D]), (9, slB 9 D, [zbo D])])),
 (23, zbj (zgo zhj [(5, slB 5 S, [zbo S]), (6, slB 6 S, [zbo S]), (7, slB 7 S, [zbo S]), (8, slB 8 S, [zbo S]), (9, slB 9 S, [zbo S]), (10, slB 10 S, [zbo S]), (11, slB 11 S, [zbo S])]))]
theorem znh (l D S : List UInt8) (v : AV) : ∀ f E, (tTg l D S v).find f = some E → SoundE Try.prog f E := zal (zgN zz6 _) (zal zA4 (zal (zgN zoJ _) (zal (zgN zBc _) (zal (zgN zAV _) (zal (zgN zAX _) (zar _))))))
noncomputable def zyZ (l : List UInt8) (w : Bool) (pt : Int) (z : Nat → Int) : zaa := [cells (bys l) 1 Md.far none, cells (adP w z pt) 18 Md.own none]
noncomputable def zzL : zaa := []
noncomputable def zmd (l : List UInt8) (w wx wy : Bool) (A G E p sp dp fl pt : Int) (x y z : Nat → Int) : zaa := [cells (bys l) 1 Md.far none, cells (adP w z pt) 18 Md.own none, cells (vwG false A G E p wx wy x y sp dp fl) 42 Md.own none]
noncomputable def zzR (l : List UInt8) : zaa := [cells (bys l) 1 Md.own none]
noncomputable def zs6 (l D S : List UInt8) (b c : UInt8) (w wx wy : Bool) (A G E p sp dp fl pt : Int) (x y z : Nat → Int) : zaa := (zmd l w wx wy A G E p sp dp fl pt x y z) ++ [cells (bys l) 1 Md.own none]
noncomputable def zz4 (D : List UInt8) (b : UInt8) : zaa := [cells (bys (b :: D)) 1 Md.own none]
noncomputable def zou (l D S : List UInt8) (b c : UInt8) (w wx wy : Bool) (A G E p sp dp fl pt : Int) (x y z : Nat → Int) : zaa := (zs6 l D S b c w wx wy A G E p sp dp fl pt x y z) ++ [cells (bys (b :: D)) 1 Md.own none]
noncomputable def zwi (S : List UInt8) (c : UInt8) : zaa := [cells (bys (c :: S)) 1 Md.own none]
noncomputable def zor (l D S : List UInt8) (b c : UInt8) (w wx wy : Bool) (A G E p sp dp fl pt : Int) (x y z : Nat → Int) : zaa := (zou l D S b c w wx wy A G E p sp dp fl pt x y z) ++ [cells (bys (c :: S)) 1 Md.own none]
noncomputable def zrT (l D S : List UInt8) (b c : UInt8) (w wx wy : Bool) (A G E p sp dp fl pt : Int) (x y z : Nat → Int) : zaa := ((zor l D S b c w wx wy A G E p sp dp fl pt x y z).set 3 (cells (zae (bys l) (0 + (zad (some (int i64 G))).toNat * 1) (List.take ((c :: S).length.min (l.length - (zad (some (int i64 G))).toNat) * 1) (bys (c :: S)))) 1 Md.own none))
noncomputable def zlT (l D S : List UInt8) (b c : UInt8) (w wx wy : Bool) (A G E p sp dp fl pt : Int) (x y z : Nat → Int) : zaa := ((zou l D S b c w wx wy A G E p sp dp fl pt x y z).set 3 (cells (zae (bys l) (0 + (zad (some (int i64 A))).toNat * 1) (List.take ((b :: D).length.min (l.length - (zad (some (int i64 A))).toNat) * 1) (bys (b :: D)))) 1 Md.own none))
noncomputable def zrj (l D S : List UInt8) (b c : UInt8) (w wx wy : Bool) (A G E p sp dp fl pt : Int) (x y z : Nat → Int) : zaa := (zlT l D S b c w wx wy A G E p sp dp fl pt x y z) ++ [cells (bys (c :: S)) 1 Md.own none]
noncomputable def zk3 (l D S : List UInt8) (b c : UInt8) (w wx wy : Bool) (A G E p sp dp fl pt : Int) (x y z : Nat → Int) : zaa := ((zor l D S b c w wx wy A G E p sp dp fl pt x y z).set 3 (cells (zae (zae (bys l) (0 + (zad (some (int i64 A))).toNat * 1) (List.take ((b :: D).length.min (l.length - (zad (some (int i64 A))).toNat) * 1) (bys (b :: D)))) (0 + (zad (some (int i64 G))).toNat * 1) (List.take ((c :: S).length.min (l.length - (zad (some (int i64 G))).toNat) * 1) (bys (c :: S)))) 1 Md.own none))
theorem zwq {R : Type} (l D S : List UInt8) (b c : UInt8) (w wx wy : Bool) (A G E p sp dp fl pt : Int) (x y z : Nat → Int) (K : AV → zaa → Option R) :
 zbs Try.prog (tTg l (b :: D) (c :: S) (.tup [.agg (zaO false A G E p (adF wx x) (adF wy y) sp dp fl), .int .i64 0])) 100 5 [(34, .bool false)] [] 8 [slB 0 l, .agg (adF w z ++ [.int .u16 pt])] [zaC l] K =
 (if zaE (Says zk7 [AV.sl (some (0, 0)) l.length 0 false] (zyZ l w pt z) (AV.tup [AV.agg (vwG false A G E p wx wy x y sp dp fl), int i64 0]) (zzL)) = true then
 (if (!zbZ (some (AV.bool w)) == zbZ (some (AV.bool false))) = true then
 K (AV.tup [AV.sl none 0 0 true, AV.bool false]) ((zmd l w wx wy A G E p sp dp fl pt x y z))
 else (if zaE (IsAdr (adF w z)) = true then
 (if (!opq (zbd (adF w z))) = true then
 K (AV.tup [AV.sl none 0 0 true, AV.bool false]) ((zmd l w wx wy A G E p sp dp fl pt x y z))
 else (if (zad (some (int u16 pt)) == 0) = false then
 (if zaE (Says zdB [AV.sl (some (0, 0)) l.length 0 false] (zmd l w wx wy A G E p sp dp fl pt x y z) (AV.sl (some (3, 0)) l.length 0 false) (zzR l)) = true then
 (if 0 ≤ zad (some (int i64 A)) ∧ zad (some (int i64 A)) ≤ (l.length : Int) then
 (if 0 ≤ zad (some (int i64 E)) ∧ zad (some (int i64 E)) ≤ (((zai l.length 0 false) : Nat) : Int) then
 (if 0 ≤ zad (some (int i64 A)) ∧ zad (some (int i64 A)) ≤ zad (some (int i64 E)) then
 (if zaE (Says zmA [AV.sl (some (0, 0 + (zad (some (int i64 A))).toNat * 1)) ((zad (some (int i64 E))).toNat - (zad (some (int i64 A))).toNat) (zac l.length 0 (zad (some (int i64 A))).toNat (some (zad (some (int i64 E)))).isNone (zad (some (int i64 E))).toNat false) false, AV.agg (adF w z)] (zs6 l D S b c w wx wy A G E p sp dp fl pt x y z) (AV.sl (some (4, 0)) (b :: D).length 0 false) (zz4 D b)) = true then
 (if 0 + (b :: D).length.min (l.length - (zad (some (int i64 A))).toNat) * 1 ≤ (bys (b :: D)).length then
 (if (List.take ((b :: D).length.min (l.length - (zad (some (int i64 A))).toNat) * 1) (bys (b :: D))).length = 0 then
 (if (int i64 (zad (some (int i64 A)))).beq (int i64 (zad (some (int i64 A)))) = true then
 (if 0 ≤ zad (some (int i64 G)) ∧ zad (some (int i64 G)) ≤ (l.length : Int) then
 (if 0 ≤ zad (some (int i64 E)) ∧ zad (some (int i64 E)) ≤ (((zai l.length 0 false) : Nat) : Int) then
 (if 0 ≤ zad (some (int i64 G)) ∧ zad (some (int i64 G)) ≤ zad (some (int i64 E)) then
 (if zaE (Says zhj [b8 (zad (some (b8 p))), AV.sl (some (0, 0 + (zad (some (int i64 G))).toNat * 1)) ((zad (some (int i64 E))).toNat - (zad (some (int i64 G))).toNat) (zac l.length 0 (zad (some (int i64 G))).toNat (some (zad (some (int i64 E)))).isNone (zad (some (int i64 E))).toNat false) false, int u16 (zad (some (int u16 pt))), AV.agg (adF wy y), AV.agg (adF w z)] (zou l D S b c w wx wy A G E p sp dp fl pt x y z) (AV.sl (some (5, 0)) (c :: S).length 0 false) (zwi S c)) = true then
 (if 0 + (c :: S).length.min (l.length - (zad (some (int i64 G))).toNat) * 1 ≤ (bys (c :: S)).length then
 (if (List.take ((c :: S).length.min (l.length - (zad (some (int i64 G))).toNat) * 1) (bys (c :: S))).length = 0 then
 (if (int i64 (zad (some (int i64 G)))).beq (int i64 (zad (some (int i64 G)))) = true then
 K (AV.tup [AV.sl (some (3, 0)) l.length 0 false, AV.bool true]) ((zor l D S b c w wx wy A G E p sp dp fl pt x y z))
 else none)
 else (if 0 < l.length - (zad (some (int i64 G))).toNat then
 (if 0 + (zad (some (int i64 G))).toNat * 1 + (List.take ((c :: S).length.min (l.length - (zad (some (int i64 G))).toNat) * 1) (bys (c :: S))).length ≤ (bys l).length ∧ (List.take ((c :: S).length.min (l.length - (zad (some (int i64 G))).toNat) * 1) (bys (c :: S))).all AV.isCell = true then
 (if (int i64 (zad (some (int i64 G)))).beq (int i64 (zad (some (int i64 G)))) = true then
 K (AV.tup [AV.sl (some (3, 0)) l.length 0 false, AV.bool true]) ((zrT l D S b c w wx wy A G E p sp dp fl pt x y z))
 else none) else none) else none))
 else none) else none) else none) else none) else none) else none)
 else (if 0 < l.length - (zad (some (int i64 A))).toNat then
 (if 0 + (zad (some (int i64 A))).toNat * 1 + (List.take ((b :: D).length.min (l.length - (zad (some (int i64 A))).toNat) * 1) (bys (b :: D))).length ≤ (bys l).length ∧ (List.take ((b :: D).length.min (l.length - (zad (some (int i64 A))).toNat) * 1) (bys (b :: D))).all AV.isCell = true then
 (if (int i64 (zad (some (int i64 A)))).beq (int i64 (zad (some (int i64 A)))) = true then
 (if 0 ≤ zad (some (int i64 G)) ∧ zad (some (int i64 G)) ≤ (l.length : Int) then
 (if 0 ≤ zad (some (int i64 E)) ∧ zad (some (int i64 E)) ≤ (((zai l.length 0 false) : Nat) : Int) then
 (if 0 ≤ zad (some (int i64 G)) ∧ zad (some (int i64 G)) ≤ zad (some (int i64 E)) then
 (if zaE (Says zhj [b8 (zad (some (b8 p))), AV.sl (some (0, 0 + (zad (some (int i64 G))).toNat * 1)) ((zad (some (int i64 E))).toNat - (zad (some (int i64 G))).toNat) (zac l.length 0 (zad (some (int i64 G))).toNat (some (zad (some (int i64 E)))).isNone (zad (some (int i64 E))).toNat false) false, int u16 (zad (some (int u16 pt))), AV.agg (adF wy y), AV.agg (adF w z)] (zlT l D S b c w wx wy A G E p sp dp fl pt x y z) (AV.sl (some (5, 0)) (c :: S).length 0 false) (zwi S c)) = true then
 (if 0 + (c :: S).length.min (l.length - (zad (some (int i64 G))).toNat) * 1 ≤ (bys (c :: S)).length then
 (if (List.take ((c :: S).length.min (l.length - (zad (some (int i64 G))).toNat) * 1) (bys (c :: S))).length = 0 then
 (if (int i64 (zad (some (int i64 G)))).beq (int i64 (zad (some (int i64 G)))) = true then
 K (AV.tup [AV.sl (some (3, 0)) l.length 0 false, AV.bool true]) ((zrj l D S b c w wx wy A G E p sp dp fl pt x y z))
 else none)
 else (if 0 < l.length - (zad (some (int i64 G))).toNat then
 (if 0 + (zad (some (int i64 G))).toNat * 1 + (List.take ((c :: S).length.min (l.length - (zad (some (int i64 G))).toNat) * 1) (bys (c :: S))).length ≤ (zae (bys l) (0 + (zad (some (int i64 A))).toNat * 1) (List.take ((b :: D).length.min (l.length - (zad (some (int i64 A))).toNat) * 1) (bys (b :: D)))).length ∧ (List.take ((c :: S).length.min (l.length - (zad (some (int i64 G))).toNat) * 1) (bys (c :: S))).all AV.isCell = true then
 (if (int i64 (zad (some (int i64 G)))).beq (int i64 (zad (some (int i64 G)))) = true then
 K (AV.tup [AV.sl (some (3, 0)) l.length 0 false, AV.bool true]) ((zk3 l D S b c w wx wy A G E p sp dp fl pt x y z))
 else none) else none) else none))
 else none) else none) else none) else none) else none) else none) else none) else none))
 else none) else none) else none) else none) else none) else none) else none))
 else none))
 else none) := by
  kernel_rfl

noncomputable def zzH (l : List UInt8) (w : Bool) (pt : Int) (z : Nat → Int) : zaa := [cells (bys l) 1 Md.far none, cells (adP w z pt) 18 Md.own none]
noncomputable def zzx : zaa := []
noncomputable def zs7 (l D S : List UInt8) (b c : UInt8) (w wx wy : Bool) (A G E p sp dp fl pt : Int) (x y z : Nat → Int) : zaa := (zmd l w wx wy A G E p sp dp fl pt x y z)
noncomputable def zAI (l : List UInt8) : zaa := [cells (bys l) 1 Md.own none]
noncomputable def zAl (l D S : List UInt8) (b c : UInt8) (w wx wy : Bool) (A G E p sp dp fl pt : Int) (x y z : Nat → Int) : zaa := (zs6 l D S b c w wx wy A G E p sp dp fl pt x y z)
noncomputable def zAo (D : List UInt8) (b : UInt8) : zaa := [cells (bys (b :: D)) 1 Md.own none]
noncomputable def zzb (l D S : List UInt8) (b c : UInt8) (w wx wy : Bool) (A G E p sp dp fl pt : Int) (x y z : Nat → Int) : zaa := (zou l D S b c w wx wy A G E p sp dp fl pt x y z)
noncomputable def zwl (S : List UInt8) (c : UInt8) : zaa := [cells (bys (c :: S)) 1 Md.own none]
noncomputable def zy6 (l D S : List UInt8) (b c : UInt8) (w wx wy : Bool) (A G E p sp dp fl pt : Int) (x y z : Nat → Int) : zaa := (zor l D S b c w wx wy A G E p sp dp fl pt x y z)
noncomputable def zAt (l D S : List UInt8) (b c : UInt8) (w wx wy : Bool) (A G E p sp dp fl pt : Int) (x y z : Nat → Int) : zaa := (zrT l D S b c w wx wy A G E p sp dp fl pt x y z)
noncomputable def zx3 (l D S : List UInt8) (b c : UInt8) (w wx wy : Bool) (A G E p sp dp fl pt : Int) (x y z : Nat → Int) : zaa := (zlT l D S b c w wx wy A G E p sp dp fl pt x y z)
noncomputable def zxs (l D S : List UInt8) (b c : UInt8) (w wx wy : Bool) (A G E p sp dp fl pt : Int) (x y z : Nat → Int) : zaa := (zrj l D S b c w wx wy A G E p sp dp fl pt x y z)
noncomputable def zsO (l D S : List UInt8) (b c : UInt8) (w wx wy : Bool) (A G E p sp dp fl pt : Int) (x y z : Nat → Int) : zaa := (zk3 l D S b c w wx wy A G E p sp dp fl pt x y z)
theorem zAB {R : Type} (l D S : List UInt8) (b c : UInt8) (w wx wy : Bool) (A G E p sp dp fl pt : Int) (x y z : Nat → Int) (K : AV → zaa → Option R) :
 zbs Try.prog (tTg l (b :: D) (c :: S) (.tup [.agg (zaO false A G E p (adF wx x) (adF wy y) sp dp fl), .int .i64 0])) 100 5 [(34, .bool true)] [] 8 [slB 0 l, .agg (adF w z ++ [.int .u16 pt])] [zaC l] K =
 (if zaE (Says zk7 [AV.sl (some (0, 0)) l.length 0 false] (zzH l w pt z) (AV.tup [AV.agg (vwG false A G E p wx wy x y sp dp fl), int i64 0]) (zzx)) = true then
 (if (!zbZ (some (AV.bool w)) == zbZ (some (AV.bool false))) = true then
 K (AV.tup [AV.sl none 0 0 true, AV.bool false]) ((zs7 l D S b c w wx wy A G E p sp dp fl pt x y z))
 else (if zaE (IsAdr (adF w z)) = true then
 (if (!opq (zbd (adF w z))) = true then
 K (AV.tup [AV.sl none 0 0 true, AV.bool false]) ((zs7 l D S b c w wx wy A G E p sp dp fl pt x y z))
 else (if (zad (some (int u16 pt)) == 0) = true then
 (if zaE (Says zdB [AV.sl (some (0, 0)) l.length 0 false] (zs7 l D S b c w wx wy A G E p sp dp fl pt x y z) (AV.sl (some (3, 0)) l.length 0 false) (zAI l)) = true then
 (if 0 ≤ zad (some (int i64 A)) ∧ zad (some (int i64 A)) ≤ (l.length : Int) then
 (if 0 ≤ zad (some (int i64 E)) ∧ zad (some (int i64 E)) ≤ (((zai l.length 0 false) : Nat) : Int) then
 (if 0 ≤ zad (some (int i64 A)) ∧ zad (some (int i64 A)) ≤ zad (some (int i64 E)) then
 (if zaE (Says zmA [AV.sl (some (0, 0 + (zad (some (int i64 A))).toNat * 1)) ((zad (some (int i64 E))).toNat - (zad (some (int i64 A))).toNat) (zac l.length 0 (zad (some (int i64 A))).toNat (some (zad (some (int i64 E)))).isNone (zad (some (int i64 E))).toNat false) false, AV.agg (adF w z)] (zAl l D S b c w wx wy A G E p sp dp fl pt x y z) (AV.sl (some (4, 0)) (b :: D).length 0 false) (zAo D b)) = true then
 (if 0 + (b :: D).length.min (l.length - (zad (some (int i64 A))).toNat) * 1 ≤ (bys (b :: D)).length then
 (if (List.take ((b :: D).length.min (l.length - (zad (some (int i64 A))).toNat) * 1) (bys (b :: D))).length = 0 then
 (if (int i64 (zad (some (int i64 A)))).beq (int i64 (zad (some (int i64 A)))) = true then
 (if 0 ≤ zad (some (int i64 G)) ∧ zad (some (int i64 G)) ≤ (l.length : Int) then
 (if 0 ≤ zad (some (int i64 E)) ∧ zad (some (int i64 E)) ≤ (((zai l.length 0 false) : Nat) : Int) then
 (if 0 ≤ zad (some (int i64 G)) ∧ zad (some (int i64 G)) ≤ zad (some (int i64 E)) then
 (if zaE (Says zhj [b8 (zad (some (b8 p))), AV.sl (some (0, 0 + (zad (some (int i64 G))).toNat * 1)) ((zad (some (int i64 E))).toNat - (zad (some (int i64 G))).toNat) (zac l.length 0 (zad (some (int i64 G))).toNat (some (zad (some (int i64 E)))).isNone (zad (some (int i64 E))).toNat false) false, int u16 (zad (some (int u16 dp))), AV.agg (adF wy y), AV.agg (adF w z)] (zzb l D S b c w wx wy A G E p sp dp fl pt x y z) (AV.sl (some (5, 0)) (c :: S).length 0 false) (zwl S c)) = true then
 (if 0 + (c :: S).length.min (l.length - (zad (some (int i64 G))).toNat) * 1 ≤ (bys (c :: S)).length then
 (if (List.take ((c :: S).length.min (l.length - (zad (some (int i64 G))).toNat) * 1) (bys (c :: S))).length = 0 then
 (if (int i64 (zad (some (int i64 G)))).beq (int i64 (zad (some (int i64 G)))) = true then
 K (AV.tup [AV.sl (some (3, 0)) l.length 0 false, AV.bool true]) ((zy6 l D S b c w wx wy A G E p sp dp fl pt x y z))
 else none)
 else (if 0 < l.length - (zad (some (int i64 G))).toNat then
 (if 0 + (zad (some (int i64 G))).toNat * 1 + (List.take ((c :: S).length.min (l.length - (zad (some (int i64 G))).toNat) * 1) (bys (c :: S))).length ≤ (bys l).length ∧ (List.take ((c :: S).length.min (l.length - (zad (some (int i64 G))).toNat) * 1) (bys (c :: S))).all AV.isCell = true then
 (if (int i64 (zad (some (int i64 G)))).beq (int i64 (zad (some (int i64 G)))) = true then
 K (AV.tup [AV.sl (some (3, 0)) l.length 0 false, AV.bool true]) ((zAt l D S b c w wx wy A G E p sp dp fl pt x y z))
 else none) else none) else none))
 else none) else none) else none) else none) else none) else none)
 else (if 0 < l.length - (zad (some (int i64 A))).toNat then
 (if 0 + (zad (some (int i64 A))).toNat * 1 + (List.take ((b :: D).length.min (l.length - (zad (some (int i64 A))).toNat) * 1) (bys (b :: D))).length ≤ (bys l).length ∧ (List.take ((b :: D).length.min (l.length - (zad (some (int i64 A))).toNat) * 1) (bys (b :: D))).all AV.isCell = true then
 (if (int i64 (zad (some (int i64 A)))).beq (int i64 (zad (some (int i64 A)))) = true then
 (if 0 ≤ zad (some (int i64 G)) ∧ zad (some (int i64 G)) ≤ (l.length : Int) then
 (if 0 ≤ zad (some (int i64 E)) ∧ zad (some (int i64 E)) ≤ (((zai l.length 0 false) : Nat) : Int) then
 (if 0 ≤ zad (some (int i64 G)) ∧ zad (some (int i64 G)) ≤ zad (some (int i64 E)) then
 (if zaE (Says zhj [b8 (zad (some (b8 p))), AV.sl (some (0, 0 + (zad (some (int i64 G))).toNat * 1)) ((zad (some (int i64 E))).toNat - (zad (some (int i64 G))).toNat) (zac l.length 0 (zad (some (int i64 G))).toNat (some (zad (some (int i64 E)))).isNone (zad (some (int i64 E))).toNat false) false, int u16 (zad (some (int u16 dp))), AV.agg (adF wy y), AV.agg (adF w z)] (zx3 l D S b c w wx wy A G E p sp dp fl pt x y z) (AV.sl (some (5, 0)) (c :: S).length 0 false) (zwl S c)) = true then
 (if 0 + (c :: S).length.min (l.length - (zad (some (int i64 G))).toNat) * 1 ≤ (bys (c :: S)).length then
 (if (List.take ((c :: S).length.min (l.length - (zad (some (int i64 G))).toNat) * 1) (bys (c :: S))).length = 0 then
 (if (int i64 (zad (some (int i64 G)))).beq (int i64 (zad (some (int i64 G)))) = true then
 K (AV.tup [AV.sl (some (3, 0)) l.length 0 false, AV.bool true]) ((zxs l D S b c w wx wy A G E p sp dp fl pt x y z))
 else none)
 else (if 0 < l.length - (zad (some (int i64 G))).toNat then
 (if 0 + (zad (some (int i64 G))).toNat * 1 + (List.take ((c :: S).length.min (l.length - (zad (some (int i64 G))).toNat) * 1) (bys (c :: S))).length ≤ (zae (bys l) (0 + (zad (some (int i64 A))).toNat * 1) (List.take ((b :: D).length.min (l.length - (zad (some (int i64 A))).toNat) * 1) (bys (b :: D)))).length ∧ (List.take ((c :: S).length.min (l.length - (zad (some (int i64 G))).toNat) * 1) (bys (c :: S))).all AV.isCell = true then
 (if (int i64 (zad (some (int i64 G)))).beq (int i64 (zad (some (int i64 G)))) = true then
 K (AV.tup [AV.sl (some (3, 0)) l.length 0 false, AV.bool true]) ((zsO l D S b c w wx wy A G E p sp dp fl pt x y z))
 else none) else none) else none))
 else none) else none) else none) else none) else none) else none) else none) else none))
 else none) else none) else none) else none) else none) else none) else none))
 else none))
 else none) := by
  kernel_rfl

noncomputable def zzV (l : List UInt8) (w : Bool) (pt : Int) (z : Nat → Int) : zaa := [cells (bys l) 1 Md.far none, cells (adP w z pt) 18 Md.own none]
noncomputable def zzK : zaa := []
noncomputable def zmZ (l : List UInt8) (w wx wy : Bool) (A G E p sp dp fl pt : Int) (x y z : Nat → Int) : zaa := [cells (bys l) 1 Md.far none, cells (adP w z pt) 18 Md.own none, cells (vwG true A G E p wx wy x y sp dp fl) 42 Md.own none]
noncomputable def zAm (l : List UInt8) : zaa := [cells (bys l) 1 Md.own none]
noncomputable def zrx (l D S : List UInt8) (b c : UInt8) (w wx wy : Bool) (A G E p sp dp fl pt : Int) (x y z : Nat → Int) : zaa := (zmZ l w wx wy A G E p sp dp fl pt x y z) ++ [cells (bys l) 1 Md.own none]
noncomputable def zz3 (D : List UInt8) (b : UInt8) : zaa := [cells (bys (b :: D)) 1 Md.own none]
noncomputable def ztf (l D S : List UInt8) (b c : UInt8) (w wx wy : Bool) (A G E p sp dp fl pt : Int) (x y z : Nat → Int) : zaa := (zrx l D S b c w wx wy A G E p sp dp fl pt x y z) ++ [cells (bys (b :: D)) 1 Md.own none]
noncomputable def zwp (S : List UInt8) (c : UInt8) : zaa := [cells (bys (c :: S)) 1 Md.own none]
noncomputable def zwz (l D S : List UInt8) (b c : UInt8) (w wx wy : Bool) (A G E p sp dp fl pt : Int) (x y z : Nat → Int) : zaa := (ztf l D S b c w wx wy A G E p sp dp fl pt x y z) ++ [cells (bys (c :: S)) 1 Md.own none]
noncomputable def zww (l D S : List UInt8) (b c : UInt8) (w wx wy : Bool) (A G E p sp dp fl pt : Int) (x y z : Nat → Int) : zaa := ((zrT l D S b c w wx wy A G E p sp dp fl pt x y z).set 2 (cells (vwG true A G E p wx wy x y sp dp fl) 42 Md.own none))
noncomputable def znN (l D S : List UInt8) (b c : UInt8) (w wx wy : Bool) (A G E p sp dp fl pt : Int) (x y z : Nat → Int) : zaa := ((zlT l D S b c w wx wy A G E p sp dp fl pt x y z).set 2 (cells (vwG true A G E p wx wy x y sp dp fl) 42 Md.own none))
noncomputable def zq9 (l D S : List UInt8) (b c : UInt8) (w wx wy : Bool) (A G E p sp dp fl pt : Int) (x y z : Nat → Int) : zaa := (znN l D S b c w wx wy A G E p sp dp fl pt x y z) ++ [cells (bys (c :: S)) 1 Md.own none]
noncomputable def znc (l D S : List UInt8) (b c : UInt8) (w wx wy : Bool) (A G E p sp dp fl pt : Int) (x y z : Nat → Int) : zaa := ((zk3 l D S b c w wx wy A G E p sp dp fl pt x y z).set 2 (cells (vwG true A G E p wx wy x y sp dp fl) 42 Md.own none))
theorem zwI {R : Type} (l D S : List UInt8) (b c : UInt8) (w wx wy : Bool) (A G E p sp dp fl pt : Int) (x y z : Nat → Int) (K : AV → zaa → Option R) :
 zbs Try.prog (tTg l (b :: D) (c :: S) (.tup [.agg (zaO true A G E p (adF wx x) (adF wy y) sp dp fl), .int .i64 0])) 100 5 [(34, .bool false)] [] 8 [slB 0 l, .agg (adF w z ++ [.int .u16 pt])] [zaC l] K =
 (if zaE (Says zk7 [AV.sl (some (0, 0)) l.length 0 false] (zzV l w pt z) (AV.tup [AV.agg (vwG true A G E p wx wy x y sp dp fl), int i64 0]) (zzK)) = true then
 (if (!zbZ (some (AV.bool w)) == zbZ (some (AV.bool true))) = true then
 K (AV.tup [AV.sl none 0 0 true, AV.bool false]) ((zmZ l w wx wy A G E p sp dp fl pt x y z))
 else (if zaE (IsAdr (adF w z)) = true then
 (if (!opq (zbd (adF w z))) = true then
 K (AV.tup [AV.sl none 0 0 true, AV.bool false]) ((zmZ l w wx wy A G E p sp dp fl pt x y z))
 else (if (zad (some (int u16 pt)) == 0) = false then
 (if zaE (Says zdB [AV.sl (some (0, 0)) l.length 0 false] (zmZ l w wx wy A G E p sp dp fl pt x y z) (AV.sl (some (3, 0)) l.length 0 false) (zAm l)) = true then
 (if 0 ≤ zad (some (int i64 A)) ∧ zad (some (int i64 A)) ≤ (l.length : Int) then
 (if 0 ≤ zad (some (int i64 E)) ∧ zad (some (int i64 E)) ≤ (((zai l.length 0 false) : Nat) : Int) then
 (if 0 ≤ zad (some (int i64 A)) ∧ zad (some (int i64 A)) ≤ zad (some (int i64 E)) then
 (if zaE (Says zoW [AV.sl (some (0, 0 + (zad (some (int i64 A))).toNat * 1)) ((zad (some (int i64 E))).toNat - (zad (some (int i64 A))).toNat) (zac l.length 0 (zad (some (int i64 A))).toNat (some (zad (some (int i64 E)))).isNone (zad (some (int i64 E))).toNat false) false, AV.agg (adF w z)] (zrx l D S b c w wx wy A G E p sp dp fl pt x y z) (AV.sl (some (4, 0)) (b :: D).length 0 false) (zz3 D b)) = true then
 (if 0 + (b :: D).length.min (l.length - (zad (some (int i64 A))).toNat) * 1 ≤ (bys (b :: D)).length then
 (if (List.take ((b :: D).length.min (l.length - (zad (some (int i64 A))).toNat) * 1) (bys (b :: D))).length = 0 then
 (if (int i64 (zad (some (int i64 A)))).beq (int i64 (zad (some (int i64 A)))) = true then
 (if 0 ≤ zad (some (int i64 G)) ∧ zad (some (int i64 G)) ≤ (l.length : Int) then
 (if 0 ≤ zad (some (int i64 E)) ∧ zad (some (int i64 E)) ≤ (((zai l.length 0 false) : Nat) : Int) then
 (if 0 ≤ zad (some (int i64 G)) ∧ zad (some (int i64 G)) ≤ zad (some (int i64 E)) then
 (if zaE (Says zhj [b8 (zad (some (b8 p))), AV.sl (some (0, 0 + (zad (some (int i64 G))).toNat * 1)) ((zad (some (int i64 E))).toNat - (zad (some (int i64 G))).toNat) (zac l.length 0 (zad (some (int i64 G))).toNat (some (zad (some (int i64 E)))).isNone (zad (some (int i64 E))).toNat false) false, int u16 (zad (some (int u16 pt))), AV.agg (adF wy y), AV.agg (adF w z)] (ztf l D S b c w wx wy A G E p sp dp fl pt x y z) (AV.sl (some (5, 0)) (c :: S).length 0 false) (zwp S c)) = true then
 (if 0 + (c :: S).length.min (l.length - (zad (some (int i64 G))).toNat) * 1 ≤ (bys (c :: S)).length then
 (if (List.take ((c :: S).length.min (l.length - (zad (some (int i64 G))).toNat) * 1) (bys (c :: S))).length = 0 then
 (if (int i64 (zad (some (int i64 G)))).beq (int i64 (zad (some (int i64 G)))) = true then
 K (AV.tup [AV.sl (some (3, 0)) l.length 0 false, AV.bool true]) ((zwz l D S b c w wx wy A G E p sp dp fl pt x y z))
 else none)
 else (if 0 < l.length - (zad (some (int i64 G))).toNat then
 (if 0 + (zad (some (int i64 G))).toNat * 1 + (List.take ((c :: S).length.min (l.length - (zad (some (int i64 G))).toNat) * 1) (bys (c :: S))).length ≤ (bys l).length ∧ (List.take ((c :: S).length.min (l.length - (zad (some (int i64 G))).toNat) * 1) (bys (c :: S))).all AV.isCell = true then
 (if (int i64 (zad (some (int i64 G)))).beq (int i64 (zad (some (int i64 G)))) = true then
 K (AV.tup [AV.sl (some (3, 0)) l.length 0 false, AV.bool true]) ((zww l D S b c w wx wy A G E p sp dp fl pt x y z))
 else none) else none) else none))
 else none) else none) else none) else none) else none) else none)
 else (if 0 < l.length - (zad (some (int i64 A))).toNat then
 (if 0 + (zad (some (int i64 A))).toNat * 1 + (List.take ((b :: D).length.min (l.length - (zad (some (int i64 A))).toNat) * 1) (bys (b :: D))).length ≤ (bys l).length ∧ (List.take ((b :: D).length.min (l.length - (zad (some (int i64 A))).toNat) * 1) (bys (b :: D))).all AV.isCell = true then
 (if (int i64 (zad (some (int i64 A)))).beq (int i64 (zad (some (int i64 A)))) = true then
 (if 0 ≤ zad (some (int i64 G)) ∧ zad (some (int i64 G)) ≤ (l.length : Int) then
 (if 0 ≤ zad (some (int i64 E)) ∧ zad (some (int i64 E)) ≤ (((zai l.length 0 false) : Nat) : Int) then
 (if 0 ≤ zad (some (int i64 G)) ∧ zad (some (int i64 G)) ≤ zad (some (int i64 E)) then
 (if zaE (Says zhj [b8 (zad (some (b8 p))), AV.sl (some (0, 0 + (zad (some (int i64 G))).toNat * 1)) ((zad (some (int i64 E))).toNat - (zad (some (int i64 G))).toNat) (zac l.length 0 (zad (some (int i64 G))).toNat (some (zad (some (int i64 E)))).isNone (zad (some (int i64 E))).toNat false) false, int u16 (zad (some (int u16 pt))), AV.agg (adF wy y), AV.agg (adF w z)] (znN l D S b c w wx wy A G E p sp dp fl pt x y z) (AV.sl (some (5, 0)) (c :: S).length 0 false) (zwp S c)) = true then
 (if 0 + (c :: S).length.min (l.length - (zad (some (int i64 G))).toNat) * 1 ≤ (bys (c :: S)).length then
 (if (List.take ((c :: S).length.min (l.length - (zad (some (int i64 G))).toNat) * 1) (bys (c :: S))).length = 0 then
 (if (int i64 (zad (some (int i64 G)))).beq (int i64 (zad (some (int i64 G)))) = true then
 K (AV.tup [AV.sl (some (3, 0)) l.length 0 false, AV.bool true]) ((zq9 l D S b c w wx wy A G E p sp dp fl pt x y z))
 else none)
 else (if 0 < l.length - (zad (some (int i64 G))).toNat then
 (if 0 + (zad (some (int i64 G))).toNat * 1 + (List.take ((c :: S).length.min (l.length - (zad (some (int i64 G))).toNat) * 1) (bys (c :: S))).length ≤ (zae (bys l) (0 + (zad (some (int i64 A))).toNat * 1) (List.take ((b :: D).length.min (l.length - (zad (some (int i64 A))).toNat) * 1) (bys (b :: D)))).length ∧ (List.take ((c :: S).length.min (l.length - (zad (some (int i64 G))).toNat) * 1) (bys (c :: S))).all AV.isCell = true then
 (if (int i64 (zad (some (int i64 G)))).beq (int i64 (zad (some (int i64 G)))) = true then
 K (AV.tup [AV.sl (some (3, 0)) l.length 0 false, AV.bool true]) ((znc l D S b c w wx wy A G E p sp dp fl pt x y z))
 else none) else none) else none))
 else none) else none) else none) else none) else none) else none) else none) else none))
 else none) else none) else none) else none) else none) else none) else none))
 else none))
 else none) := by
  kernel_rfl

noncomputable def zyS (l : List UInt8) (w : Bool) (pt : Int) (z : Nat → Int) : zaa := [cells (bys l) 1 Md.far none, cells (adP w z pt) 18 Md.own none]
noncomputable def zAc : zaa := []
noncomputable def zso (l D S : List UInt8) (b c : UInt8) (w wx wy : Bool) (A G E p sp dp fl pt : Int) (x y z : Nat → Int) : zaa := (zmZ l w wx wy A G E p sp dp fl pt x y z)
noncomputable def zyR (l : List UInt8) : zaa := [cells (bys l) 1 Md.own none]
noncomputable def zAn (l D S : List UInt8) (b c : UInt8) (w wx wy : Bool) (A G E p sp dp fl pt : Int) (x y z : Nat → Int) : zaa := (zrx l D S b c w wx wy A G E p sp dp fl pt x y z)
noncomputable def zAd (D : List UInt8) (b : UInt8) : zaa := [cells (bys (b :: D)) 1 Md.own none]
noncomputable def zy1 (l D S : List UInt8) (b c : UInt8) (w wx wy : Bool) (A G E p sp dp fl pt : Int) (x y z : Nat → Int) : zaa := (ztf l D S b c w wx wy A G E p sp dp fl pt x y z)
noncomputable def zwm (S : List UInt8) (c : UInt8) : zaa := [cells (bys (c :: S)) 1 Md.own none]
noncomputable def zzs (l D S : List UInt8) (b c : UInt8) (w wx wy : Bool) (A G E p sp dp fl pt : Int) (x y z : Nat → Int) : zaa := (zwz l D S b c w wx wy A G E p sp dp fl pt x y z)
noncomputable def zzw (l D S : List UInt8) (b c : UInt8) (w wx wy : Bool) (A G E p sp dp fl pt : Int) (x y z : Nat → Int) : zaa := (zww l D S b c w wx wy A G E p sp dp fl pt x y z)
noncomputable def zxa (l D S : List UInt8) (b c : UInt8) (w wx wy : Bool) (A G E p sp dp fl pt : Int) (x y z : Nat → Int) : zaa := (znN l D S b c w wx wy A G E p sp dp fl pt x y z)
noncomputable def zxJ (l D S : List UInt8) (b c : UInt8) (w wx wy : Bool) (A G E p sp dp fl pt : Int) (x y z : Nat → Int) : zaa := (zq9 l D S b c w wx wy A G E p sp dp fl pt x y z)
noncomputable def ztn (l D S : List UInt8) (b c : UInt8) (w wx wy : Bool) (A G E p sp dp fl pt : Int) (x y z : Nat → Int) : zaa := (znc l D S b c w wx wy A G E p sp dp fl pt x y z)
theorem zzg {R : Type} (l D S : List UInt8) (b c : UInt8) (w wx wy : Bool) (A G E p sp dp fl pt : Int) (x y z : Nat → Int) (K : AV → zaa → Option R) :
 zbs Try.prog (tTg l (b :: D) (c :: S) (.tup [.agg (zaO true A G E p (adF wx x) (adF wy y) sp dp fl), .int .i64 0])) 100 5 [(34, .bool true)] [] 8 [slB 0 l, .agg (adF w z ++ [.int .u16 pt])] [zaC l] K =
 (if zaE (Says zk7 [AV.sl (some (0, 0)) l.length 0 false] (zyS l w pt z) (AV.tup [AV.agg (vwG true A G E p wx wy x y sp dp fl), int i64 0]) (zAc)) = true then
 (if (!zbZ (some (AV.bool w)) == zbZ (some (AV.bool true))) = true then
 K (AV.tup [AV.sl none 0 0 true, AV.bool false]) ((zso l D S b c w wx wy A G E p sp dp fl pt x y z))
 else (if zaE (IsAdr (adF w z)) = true then
 (if (!opq (zbd (adF w z))) = true then
 K (AV.tup [AV.sl none 0 0 true, AV.bool false]) ((zso l D S b c w wx wy A G E p sp dp fl pt x y z))
 else (if (zad (some (int u16 pt)) == 0) = true then
 (if zaE (Says zdB [AV.sl (some (0, 0)) l.length 0 false] (zso l D S b c w wx wy A G E p sp dp fl pt x y z) (AV.sl (some (3, 0)) l.length 0 false) (zyR l)) = true then
 (if 0 ≤ zad (some (int i64 A)) ∧ zad (some (int i64 A)) ≤ (l.length : Int) then
 (if 0 ≤ zad (some (int i64 E)) ∧ zad (some (int i64 E)) ≤ (((zai l.length 0 false) : Nat) : Int) then
 (if 0 ≤ zad (some (int i64 A)) ∧ zad (some (int i64 A)) ≤ zad (some (int i64 E)) then
 (if zaE (Says zoW [AV.sl (some (0, 0 + (zad (some (int i64 A))).toNat * 1)) ((zad (some (int i64 E))).toNat - (zad (some (int i64 A))).toNat) (zac l.length 0 (zad (some (int i64 A))).toNat (some (zad (some (int i64 E)))).isNone (zad (some (int i64 E))).toNat false) false, AV.agg (adF w z)] (zAn l D S b c w wx wy A G E p sp dp fl pt x y z) (AV.sl (some (4, 0)) (b :: D).length 0 false) (zAd D b)) = true then
 (if 0 + (b :: D).length.min (l.length - (zad (some (int i64 A))).toNat) * 1 ≤ (bys (b :: D)).length then
 (if (List.take ((b :: D).length.min (l.length - (zad (some (int i64 A))).toNat) * 1) (bys (b :: D))).length = 0 then
 (if (int i64 (zad (some (int i64 A)))).beq (int i64 (zad (some (int i64 A)))) = true then
 (if 0 ≤ zad (some (int i64 G)) ∧ zad (some (int i64 G)) ≤ (l.length : Int) then
 (if 0 ≤ zad (some (int i64 E)) ∧ zad (some (int i64 E)) ≤ (((zai l.length 0 false) : Nat) : Int) then
 (if 0 ≤ zad (some (int i64 G)) ∧ zad (some (int i64 G)) ≤ zad (some (int i64 E)) then
 (if zaE (Says zhj [b8 (zad (some (b8 p))), AV.sl (some (0, 0 + (zad (some (int i64 G))).toNat * 1)) ((zad (some (int i64 E))).toNat - (zad (some (int i64 G))).toNat) (zac l.length 0 (zad (some (int i64 G))).toNat (some (zad (some (int i64 E)))).isNone (zad (some (int i64 E))).toNat false) false, int u16 (zad (some (int u16 dp))), AV.agg (adF wy y), AV.agg (adF w z)] (zy1 l D S b c w wx wy A G E p sp dp fl pt x y z) (AV.sl (some (5, 0)) (c :: S).length 0 false) (zwm S c)) = true then
 (if 0 + (c :: S).length.min (l.length - (zad (some (int i64 G))).toNat) * 1 ≤ (bys (c :: S)).length then
 (if (List.take ((c :: S).length.min (l.length - (zad (some (int i64 G))).toNat) * 1) (bys (c :: S))).length = 0 then
 (if (int i64 (zad (some (int i64 G)))).beq (int i64 (zad (some (int i64 G)))) = true then
 K (AV.tup [AV.sl (some (3, 0)) l.length 0 false, AV.bool true]) ((zzs l D S b c w wx wy A G E p sp dp fl pt x y z))
 else none)
 else (if 0 < l.length - (zad (some (int i64 G))).toNat then
 (if 0 + (zad (some (int i64 G))).toNat * 1 + (List.take ((c :: S).length.min (l.length - (zad (some (int i64 G))).toNat) * 1) (bys (c :: S))).length ≤ (bys l).length ∧ (List.take ((c :: S).length.min (l.length - (zad (some (int i64 G))).toNat) * 1) (bys (c :: S))).all AV.isCell = true then
 (if (int i64 (zad (some (int i64 G)))).beq (int i64 (zad (some (int i64 G)))) = true then
 K (AV.tup [AV.sl (some (3, 0)) l.length 0 false, AV.bool true]) ((zzw l D S b c w wx wy A G E p sp dp fl pt x y z))
 else none) else none) else none))
 else none) else none) else none) else none) else none) else none)
 else (if 0 < l.length - (zad (some (int i64 A))).toNat then
 (if 0 + (zad (some (int i64 A))).toNat * 1 + (List.take ((b :: D).length.min (l.length - (zad (some (int i64 A))).toNat) * 1) (bys (b :: D))).length ≤ (bys l).length ∧ (List.take ((b :: D).length.min (l.length - (zad (some (int i64 A))).toNat) * 1) (bys (b :: D))).all AV.isCell = true then
 (if (int i64 (zad (some (int i64 A)))).beq (int i64 (zad (some (int i64 A)))) = true then
 (if 0 ≤ zad (some (int i64 G)) ∧ zad (some (int i64 G)) ≤ (l.length : Int) then
 (if 0 ≤ zad (some (int i64 E)) ∧ zad (some (int i64 E)) ≤ (((zai l.length 0 false) : Nat) : Int) then
 (if 0 ≤ zad (some (int i64 G)) ∧ zad (some (int i64 G)) ≤ zad (some (int i64 E)) then
 (if zaE (Says zhj [b8 (zad (some (b8 p))), AV.sl (some (0, 0 + (zad (some (int i64 G))).toNat * 1)) ((zad (some (int i64 E))).toNat - (zad (some (int i64 G))).toNat) (zac l.length 0 (zad (some (int i64 G))).toNat (some (zad (some (int i64 E)))).isNone (zad (some (int i64 E))).toNat false) false, int u16 (zad (some (int u16 dp))), AV.agg (adF wy y), AV.agg (adF w z)] (zxa l D S b c w wx wy A G E p sp dp fl pt x y z) (AV.sl (some (5, 0)) (c :: S).length 0 false) (zwm S c)) = true then
 (if 0 + (c :: S).length.min (l.length - (zad (some (int i64 G))).toNat) * 1 ≤ (bys (c :: S)).length then
 (if (List.take ((c :: S).length.min (l.length - (zad (some (int i64 G))).toNat) * 1) (bys (c :: S))).length = 0 then
 (if (int i64 (zad (some (int i64 G)))).beq (int i64 (zad (some (int i64 G)))) = true then
 K (AV.tup [AV.sl (some (3, 0)) l.length 0 false, AV.bool true]) ((zxJ l D S b c w wx wy A G E p sp dp fl pt x y z))
 else none)
 else (if 0 < l.length - (zad (some (int i64 G))).toNat then
 (if 0 + (zad (some (int i64 G))).toNat * 1 + (List.take ((c :: S).length.min (l.length - (zad (some (int i64 G))).toNat) * 1) (bys (c :: S))).length ≤ (zae (bys l) (0 + (zad (some (int i64 A))).toNat * 1) (List.take ((b :: D).length.min (l.length - (zad (some (int i64 A))).toNat) * 1) (bys (b :: D)))).length ∧ (List.take ((c :: S).length.min (l.length - (zad (some (int i64 G))).toNat) * 1) (bys (c :: S))).all AV.isCell = true then
 (if (int i64 (zad (some (int i64 G)))).beq (int i64 (zad (some (int i64 G)))) = true then
 K (AV.tup [AV.sl (some (3, 0)) l.length 0 false, AV.bool true]) ((ztn l D S b c w wx wy A G E p sp dp fl pt x y z))
 else none) else none) else none))
 else none) else none) else none) else none) else none) else none) else none) else none))
 else none) else none) else none) else none) else none) else none) else none))
 else none))
 else none) := by
  kernel_rfl

noncomputable def zAj (l : List UInt8) (w : Bool) (pt : Int) (z : Nat → Int) : zaa := [cells (bys l) 1 Md.far none, cells (adP w z pt) 18 Md.own none]
noncomputable def zA5 : zaa := []
noncomputable def zqp (l : List UInt8) (w : Bool) (r pt : Int) (z : Nat → Int) : zaa := (zAj l w pt z) ++ [cells [AV.bool false, int i64 0, int i64 0, int i64 0, b8 0, AV.bool false, b8 0, b8 0, b8 0, b8 0, b8 0, b8 0, b8 0, b8 0, b8 0, b8 0, b8 0, b8 0, b8 0, b8 0, b8 0, b8 0, AV.bool false, b8 0, b8 0, b8 0, b8 0, b8 0, b8 0, b8 0, b8 0, b8 0, b8 0, b8 0, b8 0, b8 0, b8 0, b8 0, b8 0, int u16 0, int u16 0, b8 0] 42 Md.own none]
noncomputable def zzG (l : List UInt8) : zaa := [cells (bys l) 1 Md.own none]
noncomputable def zyB (l : List UInt8) (w : Bool) (r pt : Int) (z : Nat → Int) : zaa := (zqp l w r pt z) ++ [cells (bys l) 1 Md.own none]
noncomputable def zuE : zaa := [cells [] 1 Md.own none]
noncomputable def zxi (l : List UInt8) (w : Bool) (r pt : Int) (z : Nat → Int) : zaa := (zyB l w r pt z) ++ [cells [] 1 Md.own none]
noncomputable def zzD (l : List UInt8) (w : Bool) (r pt : Int) (z : Nat → Int) : zaa := (zxi l w r pt z) ++ [cells [] 1 Md.own none]
theorem zBy {R : Type} (l : List UInt8) (w : Bool) (r pt : Int) (z : Nat → Int) (K : AV → zaa → Option R) :
 zbs Try.prog (tTg l [] [] (.tup [.agg zl1, .int .i64 r])) 100 5 [] [] 8 [slB 0 l, .agg (adF w z ++ [.int .u16 pt])] [zaC l] K =
 (if zaE (Says zk7 [AV.sl (some (0, 0)) l.length 0 false] (zAj l w pt z) (AV.tup [AV.agg zl1, int i64 r]) (zA5)) = true then
 (if (r != 0) = true then
 K (AV.tup [AV.sl none 0 0 true, AV.bool false]) ((zqp l w r pt z))
 else (if (!zbZ (some (AV.bool w)) == zbZ (some (AV.bool false))) = true then
 K (AV.tup [AV.sl none 0 0 true, AV.bool false]) ((zqp l w r pt z))
 else (if zaE (IsAdr (adF w z)) = true then
 (if (!opq (zbd (adF w z))) = true then
 K (AV.tup [AV.sl none 0 0 true, AV.bool false]) ((zqp l w r pt z))
 else (if (zad (some (int u16 pt)) == 0) = true then
 (if zaE (Says zdB [AV.sl (some (0, 0)) l.length 0 false] (zqp l w r pt z) (AV.sl (some (3, 0)) l.length 0 false) (zzG l)) = true then
 (if zaE (Says zmA [AV.sl (some (0, 0 + (zad (some (int i64 0))).toNat * 1)) ((zad (some (int i64 0))).toNat - (zad (some (int i64 0))).toNat) (zac l.length 0 (zad (some (int i64 0))).toNat (some (zad (some (int i64 0)))).isNone (zad (some (int i64 0))).toNat false) false, AV.agg (adF w z)] (zyB l w r pt z) (AV.sl (some (4, 0)) 0 0 false) (zuE)) = true then
 (if zaE (Says zhj [b8 (zad (some (b8 0))), AV.sl (some (0, 0 + (zad (some (int i64 0))).toNat * 1)) ((zad (some (int i64 0))).toNat - (zad (some (int i64 0))).toNat) (zac l.length 0 (zad (some (int i64 0))).toNat (some (zad (some (int i64 0)))).isNone (zad (some (int i64 0))).toNat false) false, int u16 (zad (some (int u16 0))), AV.agg [AV.bool false, b8 0, b8 0, b8 0, b8 0, b8 0, b8 0, b8 0, b8 0, b8 0, b8 0, b8 0, b8 0, b8 0, b8 0, b8 0, b8 0], AV.agg (adF w z)] (zxi l w r pt z) (AV.sl (some (5, 0)) 0 0 false) (zuE)) = true then
 K (AV.tup [AV.sl (some (3, 0)) l.length 0 false, AV.bool true]) ((zzD l w r pt z))
 else none) else none) else none)
 else (if zaE (Says zdB [AV.sl (some (0, 0)) l.length 0 false] (zqp l w r pt z) (AV.sl (some (3, 0)) l.length 0 false) (zzG l)) = true then
 (if zaE (Says zmA [AV.sl (some (0, 0 + (zad (some (int i64 0))).toNat * 1)) ((zad (some (int i64 0))).toNat - (zad (some (int i64 0))).toNat) (zac l.length 0 (zad (some (int i64 0))).toNat (some (zad (some (int i64 0)))).isNone (zad (some (int i64 0))).toNat false) false, AV.agg (adF w z)] (zyB l w r pt z) (AV.sl (some (4, 0)) 0 0 false) (zuE)) = true then
 (if zaE (Says zhj [b8 (zad (some (b8 0))), AV.sl (some (0, 0 + (zad (some (int i64 0))).toNat * 1)) ((zad (some (int i64 0))).toNat - (zad (some (int i64 0))).toNat) (zac l.length 0 (zad (some (int i64 0))).toNat (some (zad (some (int i64 0)))).isNone (zad (some (int i64 0))).toNat false) false, int u16 (zad (some (int u16 pt))), AV.agg [AV.bool false, b8 0, b8 0, b8 0, b8 0, b8 0, b8 0, b8 0, b8 0, b8 0, b8 0, b8 0, b8 0, b8 0, b8 0, b8 0, b8 0], AV.agg (adF w z)] (zxi l w r pt z) (AV.sl (some (5, 0)) 0 0 false) (zuE)) = true then
 K (AV.tup [AV.sl (some (3, 0)) l.length 0 false, AV.bool true]) ((zzD l w r pt z))
 else none) else none) else none)))
 else none)))
 else none) := by
  kernel_rfl


end Go.Proofs.Ytnchnjkakddhlaa.L
