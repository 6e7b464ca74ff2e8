/- RewriteBack: its rows. -/
import Derived.Test.YtnchnjkakddhlaaTgK
import Derived.Test.YtnchnjkakddhlaaRRead
import Derived.Test.YtnchnjkakddhlaaRfGood
import Derived.Test.YtnchnjkakddhlaaBuild
import Derived.Test.YtnchnjkakddhlaaGoB
import Derived.Test.YtnchnjkakddhlaaDifK
import Derived.Test.YtnchnjkakddhlaaAwake9
set_option autoImplicit false
set_option maxRecDepth 100000
set_option linter.unusedVariables false
set_option linter.unusedSimpArgs false
namespace Go.Proofs.Ytnchnjkakddhlaa.L
open Go Go.Abs
open Go.IntKind (u8 u16 u32 u64 i64)
open Go.Abs.AV (int)
open Go.Abs.ABlk (cells)

noncomputable abbrev RBL := zb2 (zaB Try.prog 5) 0
def mRB : List Bool := List.replicate 16 false ++ List.replicate 1 true ++ List.replicate 1 false ++ List.replicate 1 true ++ List.replicate 1 false ++ List.replicate 1 true ++ List.replicate 3 false ++ List.replicate 2 true ++ List.replicate 153 false
def vRB (Y Z : List UInt8) (n : Nat) (i : Int) : List AV := [slB 3 Y, slB 4 Z, .ptr (some (5, 0)), .sl (some (7, 0)) n 0 false, .int .i64 i]
def hRB (B0 B1 B2 : ABlk) (Y Z : List UInt8) (V : List AV) (B6 : ABlk) (L : List AV) : zaa := [B0, B1, B2, zbo Y, zbo Z, .cells V 42 .own none, B6, .cells L 1 .own none]
noncomputable def tRB (B O Y Z : List UInt8) (v1 : AV) (l : List Int) (n : Nat) : Tbl := [(12, zbj zBx), (13, zbj zA8), (14, zbj (zv8 BuildR00 [(1, slB 1 B, [zbo B])])), (8, zbj (zv8 TgR [(2, .tup [slB 2 O, .bool true], [zbo O]), (3, .tup [slB 3 Y, .bool true], [zbo Y]), (4, .tup [slB 4 Z, .bool true], [zbo Z])])), (15, zbj (zgo zk7 [(5, v1, []), (6, v1, [])])), (16, zbj (zgo zh9 [(7, .bool true, [])])), (11, zbj (zv8 DifR [(7, .sl (some (7, 0)) n 0 false, [.cells (l.map (AV.int .i64)) 1 .own none])])), (7, zbj zre)]
theorem zxx (B O Y Z : List UInt8) (v1 : AV) (l : List Int) (n : Nat) : ∀ f E, (tRB B O Y Z v1 l n).find f = some E → SoundE Try.prog f E := zal zBR (zal zBU (zal (zuk _) (zal (sTg _) (zal (zgN zwA _) (zal (zgN zxt _) (zal (zBS _) (zal zzI (zar _))))))))

noncomputable def zpj (B0 B1 B2 : ABlk) (Y Z : List UInt8) (V : List AV) (B6 : ABlk) (L : List AV) : zaa := [B0, B1, B2, cells (bys Y) 1 Md.own none, cells (bys Z) 1 Md.own none, ABlk.cells V 42 Md.own none, B6, ABlk.cells L 1 Md.own none]
theorem zBm (B0 B1 B2 : ABlk) (Y Z : List UInt8) (V : List AV) (B6 : ABlk) (L : List AV) (n : Nat) (i : Int) :
 zcX Try.prog [] 100 4 [(115, .bool true), (177, .bool false)] noT RBL mRB (vRB Y Z n i) (hRB B0 B1 B2 Y Z V B6 L) =
 (if decide (i < (n : Int)) = true then
 (if 0 ≤ i ∧ i < (n : Int) then
 (if zaI i64 L[0 + i.toNat * 1]? = true then
 (if 0 ≤ zad L[0 + i.toNat * 1]? ∧ zad L[0 + i.toNat * 1]? < (Y.length : Int) then
 (if zaI u8 (bys Y)[0 + (zad L[0 + i.toNat * 1]?).toNat * 1]? = true then
 (if ((zad (bys Y)[0 + (zad L[0 + i.toNat * 1]?).toNat * 1]?).tmod 255 != 0) = true then
 none
 else (if 0 ≤ zad L[0 + i.toNat * 1]? ∧ zad L[0 + i.toNat * 1]? < (Z.length : Int) then
 (if zaI u8 (bys Z)[0 + (zad L[0 + i.toNat * 1]?).toNat * 1]? = true then
 (if ((zad (bys Z)[0 + (zad L[0 + i.toNat * 1]?).toNat * 1]?).tmod 255 != 0) = true then
 none
 else (if zaI i64 V[1]? = true then
 (if (zad L[0 + i.toNat * 1]? != i64.wrap (zad V[1]? + 10)) = true then
 (if zaI i64 V[1]? = true then
 (if (zad L[0 + i.toNat * 1]? != i64.wrap (zad V[1]? + 11)) = true then
 (if zaI i64 V[2]? = true then
 (if (zad L[0 + i.toNat * 1]? != i64.wrap (zad V[2]? + 16)) = true then
 (if zaI i64 V[2]? = true then
 (if (zad L[0 + i.toNat * 1]? != i64.wrap (zad V[2]? + 17)) = true then
 (if zaI i64 V[2]? = true then
 (if (zad L[0 + i.toNat * 1]? != i64.wrap (zad V[2]? + 6)) = true then
 (if zaI i64 V[2]? = true then
 (if (zad L[0 + i.toNat * 1]? != i64.wrap (zad V[2]? + 7)) = false then
 some ((AEx.norm, [AV.sl (some (3, 0)) Y.length 0 false, AV.sl (some (4, 0)) Z.length 0 false, AV.ptr (some (5, 0)), AV.sl (some (7, 0)) n 0 false, int i64 (i64.wrap (i + 1))], (zpj B0 B1 B2 Y Z V B6 L)))
 else none) else none)
 else some ((AEx.norm, [AV.sl (some (3, 0)) Y.length 0 false, AV.sl (some (4, 0)) Z.length 0 false, AV.ptr (some (5, 0)), AV.sl (some (7, 0)) n 0 false, int i64 (i64.wrap (i + 1))], (zpj B0 B1 B2 Y Z V B6 L))))
 else none)
 else some ((AEx.norm, [AV.sl (some (3, 0)) Y.length 0 false, AV.sl (some (4, 0)) Z.length 0 false, AV.ptr (some (5, 0)), AV.sl (some (7, 0)) n 0 false, int i64 (i64.wrap (i + 1))], (zpj B0 B1 B2 Y Z V B6 L))))
 else none)
 else some ((AEx.norm, [AV.sl (some (3, 0)) Y.length 0 false, AV.sl (some (4, 0)) Z.length 0 false, AV.ptr (some (5, 0)), AV.sl (some (7, 0)) n 0 false, int i64 (i64.wrap (i + 1))], (zpj B0 B1 B2 Y Z V B6 L))))
 else none)
 else some ((AEx.norm, [AV.sl (some (3, 0)) Y.length 0 false, AV.sl (some (4, 0)) Z.length 0 false, AV.ptr (some (5, 0)), AV.sl (some (7, 0)) n 0 false, int i64 (i64.wrap (i + 1))], (zpj B0 B1 B2 Y Z V B6 L))))
 else none)
 else some ((AEx.norm, [AV.sl (some (3, 0)) Y.length 0 false, AV.sl (some (4, 0)) Z.length 0 false, AV.ptr (some (5, 0)), AV.sl (some (7, 0)) n 0 false, int i64 (i64.wrap (i + 1))], (zpj B0 B1 B2 Y Z V B6 L))))
 else none))
 else none) else none))
 else none) else none) else none) else none) else none) := by
  kernel_rfl

noncomputable def zBh (B0 B1 B2 : ABlk) (Y Z : List UInt8) (V : List AV) (B6 : ABlk) (L : List AV) : zaa := [B0, B1, B2, cells (bys Y) 1 Md.own none, cells (bys Z) 1 Md.own none, ABlk.cells V 42 Md.own none, B6, ABlk.cells L 1 Md.own none]
theorem zA6 (B0 B1 B2 : ABlk) (Y Z : List UInt8) (V : List AV) (B6 : ABlk) (L : List AV) (n : Nat) (i : Int) :
 zcX Try.prog [] 100 4 [(115, .bool false)] noT RBL mRB (vRB Y Z n i) (hRB B0 B1 B2 Y Z V B6 L) =
 (if decide (i < (n : Int)) = false then
 some ((AEx.exit 0, [AV.sl (some (3, 0)) Y.length 0 false, AV.sl (some (4, 0)) Z.length 0 false, AV.ptr (some (5, 0)), AV.sl (some (7, 0)) n 0 false, int i64 i], (zBh B0 B1 B2 Y Z V B6 L)))
 else none) := by
  kernel_rfl

noncomputable def zBa (d : List UInt8) : zaa := [cells (bys d) 1 Md.far none]
theorem zBw {R : Type} (v u : Bool) (n m o : Int) (d : List UInt8) (K : AV → zaa → Option R) :
 zbs Try.prog (tRB [] [] [] [] .nilFn [] 0) 100 4 [(29, .bool true)] [] 5 [.int .i64 n, .bool v, .bool u, slB 0 d, .int .i64 m, .int .i64 o] [zaC d] K =
 (if decide ((d.length : Int) > 400) = true then
 K (AV.bool true) ((zBa d))
 else none) := by
  kernel_rfl

noncomputable def zAz (d : List UInt8) : zaa := [cells (bys d) 1 Md.far none]
noncomputable def zze (B : List UInt8) : zaa := [cells (bys B) 1 Md.own none]
noncomputable def zAx (d B : List UInt8) : zaa := [cells (bys d) 1 Md.far none, cells (bys B) 1 Md.own none]
noncomputable def zzn (O : List UInt8) : zaa := [cells (bys O) 1 Md.own none]
noncomputable def zAH (d B O : List UInt8) : zaa := [cells (bys d) 1 Md.far none, cells (bys B) 1 Md.own none, cells (bys O) 1 Md.own none]
noncomputable def zy5 (Y : List UInt8) : zaa := [cells (bys Y) 1 Md.own none]
noncomputable def zzA (d B O Y : List UInt8) : zaa := [cells (bys d) 1 Md.far none, cells (bys B) 1 Md.own none, cells (bys O) 1 Md.own none, cells (bys Y) 1 Md.own none]
noncomputable def zAF (Z : List UInt8) : zaa := [cells (bys Z) 1 Md.own none]
noncomputable def zy3 (d B O Y Z : List UInt8) : zaa := [cells (bys d) 1 Md.far none, cells (bys B) 1 Md.own none, cells (bys O) 1 Md.own none, cells (bys Y) 1 Md.own none, cells (bys Z) 1 Md.own none]
noncomputable def zos : zaa := []
noncomputable def zx2 (v : Bool) (n o A G E : Int) (d B O Y Z : List UInt8) : zaa := [cells (bys d) 1 Md.far none, cells (bys B) 1 Md.own none, cells (bys O) 1 Md.own none, cells (bys Y) 1 Md.own none, cells (bys Z) 1 Md.own none, cells [AV.bool v, int i64 A, int i64 G, int i64 E, b8 6, AV.bool v, b8 10, b8 (kb1 n), b8 (kb2 n), b8 (kb3 n), b8 0, b8 0, b8 0, b8 0, b8 0, b8 0, b8 0, b8 0, b8 0, b8 0, b8 0, b8 0, AV.bool v, b8 172, b8 16, b8 0, b8 (db3 o), b8 0, b8 0, b8 0, b8 0, b8 0, b8 0, b8 0, b8 0, b8 0, b8 0, b8 0, b8 0, int u16 (zat n), int u16 (zaF o), b8 0] 42 Md.own none]
noncomputable def zni (v : Bool) (n o A G E : Int) (d B O Y Z : List UInt8) : zaa := [cells (bys d) 1 Md.far none, cells (bys B) 1 Md.own none, cells (bys O) 1 Md.own none, cells (bys Y) 1 Md.own none, cells (bys Z) 1 Md.own none, cells [AV.bool v, int i64 A, int i64 G, int i64 E, b8 6, AV.bool v, b8 10, b8 (kb1 n), b8 (kb2 n), b8 (kb3 n), b8 0, b8 0, b8 0, b8 0, b8 0, b8 0, b8 0, b8 0, b8 0, b8 0, b8 0, b8 0, AV.bool v, b8 172, b8 16, b8 0, b8 (db3 o), b8 0, b8 0, b8 0, b8 0, b8 0, b8 0, b8 0, b8 0, b8 0, b8 0, b8 0, b8 0, int u16 (zat n), int u16 (zaF o), b8 0] 42 Md.own none, cells [AV.bool v, int i64 A, int i64 G, int i64 E, b8 6, AV.bool v, b8 10, b8 (kb1 n), b8 (kb2 n), b8 (kb3 n), b8 0, b8 0, b8 0, b8 0, b8 0, b8 0, b8 0, b8 0, b8 0, b8 0, b8 0, b8 0, AV.bool v, b8 172, b8 16, b8 0, b8 (db3 o), b8 0, b8 0, b8 0, b8 0, b8 0, b8 0, b8 0, b8 0, b8 0, b8 0, b8 0, b8 0, int u16 (zat n), int u16 (zaF o), b8 0] 42 Md.own none]
noncomputable def zx4 (l : List Int) : zaa := [cells (List.map (int i64) l) 1 Md.own none]
noncomputable def zn6 (v : Bool) (n o A G E : Int) (d B O Y Z : List UInt8) (l : List Int) : zaa := [cells (bys d) 1 Md.far none, cells (bys B) 1 Md.own none, cells (bys O) 1 Md.own none, cells (bys Y) 1 Md.own none, cells (bys Z) 1 Md.own none, cells [AV.bool v, int i64 A, int i64 G, int i64 E, b8 6, AV.bool v, b8 10, b8 (kb1 n), b8 (kb2 n), b8 (kb3 n), b8 0, b8 0, b8 0, b8 0, b8 0, b8 0, b8 0, b8 0, b8 0, b8 0, b8 0, b8 0, AV.bool v, b8 172, b8 16, b8 0, b8 (db3 o), b8 0, b8 0, b8 0, b8 0, b8 0, b8 0, b8 0, b8 0, b8 0, b8 0, b8 0, b8 0, int u16 (zat n), int u16 (zaF o), b8 0] 42 Md.own none, cells [AV.bool v, int i64 A, int i64 G, int i64 E, b8 6, AV.bool v, b8 10, b8 (kb1 n), b8 (kb2 n), b8 (kb3 n), b8 0, b8 0, b8 0, b8 0, b8 0, b8 0, b8 0, b8 0, b8 0, b8 0, b8 0, b8 0, AV.bool v, b8 172, b8 16, b8 0, b8 (db3 o), b8 0, b8 0, b8 0, b8 0, b8 0, b8 0, b8 0, b8 0, b8 0, b8 0, b8 0, b8 0, int u16 (zat n), int u16 (zaF o), b8 0] 42 Md.own none, cells (List.map (int i64) l) 1 Md.own none]
theorem zAy {R : Type} (q : Prop) (v : Bool) (n m o A G E : Int) (d B O Y Z : List UInt8) (l : List Int) (N : Nat) (K : AV → zaa → Option R) :
 zbs Try.prog (tRB B O Y Z (.tup [.agg (zaO v A G E 6 (zbD v n) (zfL v o) (zat n) (zaF o) 0), .int .i64 0]) l N) 100 4 [(29, .bool false), (77, .bool false), (97, .bool false), (108, .bool false)] [(15, zzc q mRB (vRB Y Z N 0) (hRB (zaC d) (zbo B) (zbo O) Y Z (zaO v A G E 6 (zbD v n) (zfL v o) (zat n) (zaF o) 0) (.cells (zaO v A G E 6 (zbD v n) (zfL v o) (zat n) (zaF o) 0) 42 .own none) (l.map (AV.int .i64))) (.exit 0) (vRB Y Z N N) (hRB (zaC d) (zbo B) (zbo O) Y Z (zaO v A G E 6 (zbD v n) (zfL v o) (zat n) (zaF o) 0) (.cells (zaO v A G E 6 (zbD v n) (zfL v o) (zat n) (zaF o) 0) 42 .own none) (l.map (AV.int .i64))))] 5 [.int .i64 n, .bool v, .bool false, slB 0 d, .int .i64 m, .int .i64 o] [zaC d] K =
 (if decide ((d.length : Int) > 400) = false then
 (if zaE (BuildR00 [AV.agg (zkT v false n), b8 0, AV.sl (some (0, 0)) d.length 0 false, AV.bool false, AV.bool false, int i64 0] (zAz d) (AV.sl (some (1, 0)) B.length 0 false) (zze B)) = true then
 (if zaE (TgR [AV.sl (some (1, 0)) B.length 0 false, AV.agg (zfL v m ++ [.int .u16 (zaF m)])] (zAx d B) (AV.tup [AV.sl (some (2, 0)) O.length 0 false, AV.bool true]) (zzn O)) = true then
 (if zaE (TgR [AV.sl (some (2, 0)) O.length 0 false, AV.agg [AV.bool v, b8 172, b8 16, b8 0, b8 (db3 o), b8 0, b8 0, b8 0, b8 0, b8 0, b8 0, b8 0, b8 0, b8 0, b8 0, b8 0, b8 0, int u16 (zaF o)]] (zAH d B O) (AV.tup [AV.sl (some (3, 0)) Y.length 0 false, AV.bool true]) (zy5 Y)) = true then
 (if zaE (TgR [AV.sl (some (1, 0)) B.length 0 false, AV.agg [AV.bool v, b8 172, b8 16, b8 0, b8 (db3 o), b8 0, b8 0, b8 0, b8 0, b8 0, b8 0, b8 0, b8 0, b8 0, b8 0, b8 0, b8 0, int u16 (zaF o)]] (zzA d B O Y) (AV.tup [AV.sl (some (4, 0)) Z.length 0 false, AV.bool true]) (zAF Z)) = true then
 (if ((Y.length : Int) != (Z.length : Int)) = false then
 (if zaE (Says zk7 [AV.sl (some (4, 0)) Z.length 0 false] (zy3 d B O Y Z) (AV.tup [AV.agg [AV.bool v, int i64 A, int i64 G, int i64 E, b8 6, AV.bool v, b8 10, b8 (kb1 n), b8 (kb2 n), b8 (kb3 n), b8 0, b8 0, b8 0, b8 0, b8 0, b8 0, b8 0, b8 0, b8 0, b8 0, b8 0, b8 0, AV.bool v, b8 172, b8 16, b8 0, b8 (db3 o), b8 0, b8 0, b8 0, b8 0, b8 0, b8 0, b8 0, b8 0, b8 0, b8 0, b8 0, b8 0, int u16 (zat n), int u16 (zaF o), b8 0], int i64 0]) (zos)) = true then
 (if zaE (Says zk7 [AV.sl (some (3, 0)) Y.length 0 false] (zx2 v n o A G E d B O Y Z) (AV.tup [AV.agg [AV.bool v, int i64 A, int i64 G, int i64 E, b8 6, AV.bool v, b8 10, b8 (kb1 n), b8 (kb2 n), b8 (kb3 n), b8 0, b8 0, b8 0, b8 0, b8 0, b8 0, b8 0, b8 0, b8 0, b8 0, b8 0, b8 0, AV.bool v, b8 172, b8 16, b8 0, b8 (db3 o), b8 0, b8 0, b8 0, b8 0, b8 0, b8 0, b8 0, b8 0, b8 0, b8 0, b8 0, b8 0, int u16 (zat n), int u16 (zaF o), b8 0], int i64 0]) (zos)) = true then
 (if (!(zbZ (some (AV.bool v)) == zbZ (some (AV.bool v)) && (zad (some (int i64 A)) == zad (some (int i64 A)) && (zad (some (int i64 G)) == zad (some (int i64 G)) && (zad (some (int i64 E)) == zad (some (int i64 E)) && (zad (some (b8 6)) == zad (some (b8 6)) && (zbZ (some (AV.bool v)) == zbZ (some (AV.bool v)) && (zad (some (b8 10)) == zad (some (b8 10)) && (zad (some (b8 (kb1 n))) == zad (some (b8 (kb1 n))) && (zad (some (b8 (kb2 n))) == zad (some (b8 (kb2 n))) && (zad (some (b8 (kb3 n))) == zad (some (b8 (kb3 n))) && (zad (some (b8 0)) == zad (some (b8 0)) && (zad (some (b8 0)) == zad (some (b8 0)) && (zad (some (b8 0)) == zad (some (b8 0)) && (zad (some (b8 0)) == zad (some (b8 0)) && (zad (some (b8 0)) == zad (some (b8 0)) && (zad (some (b8 0)) == zad (some (b8 0)) && (zad (some (b8 0)) == zad (some (b8 0)) && (zad (some (b8 0)) == zad (some (b8 0)) && (zad (some (b8 0)) == zad (some (b8 0)) && (zad (some (b8 0)) == zad (some (b8 0)) && (zad (some (b8 0)) == zad (some (b8 0)) && (zad (some (b8 0)) == zad (some (b8 0)) && true))))))))))))))) && true) && (zbZ (some (AV.bool v)) == zbZ (some (AV.bool v)) && (zad (some (b8 172)) == zad (some (b8 172)) && (zad (some (b8 16)) == zad (some (b8 16)) && (zad (some (b8 0)) == zad (some (b8 0)) && (zad (some (b8 (db3 o))) == zad (some (b8 (db3 o))) && (zad (some (b8 0)) == zad (some (b8 0)) && (zad (some (b8 0)) == zad (some (b8 0)) && (zad (some (b8 0)) == zad (some (b8 0)) && (zad (some (b8 0)) == zad (some (b8 0)) && (zad (some (b8 0)) == zad (some (b8 0)) && (zad (some (b8 0)) == zad (some (b8 0)) && (zad (some (b8 0)) == zad (some (b8 0)) && (zad (some (b8 0)) == zad (some (b8 0)) && (zad (some (b8 0)) == zad (some (b8 0)) && (zad (some (b8 0)) == zad (some (b8 0)) && (zad (some (b8 0)) == zad (some (b8 0)) && (zad (some (b8 0)) == zad (some (b8 0)) && true))))))))))))))) && true) && (zad (some (int u16 (zat n))) == zad (some (int u16 (zat n))) && (zad (some (int u16 (zaF o))) == zad (some (int u16 (zaF o))) && true)))) && (zad (some (b8 0)) == zad (some (b8 0)) && true))))))) = false then
 (if zaE (Says zh9 [AV.sl (some (3, 0)) Y.length 0 false] (zni v n o A G E d B O Y Z) (AV.bool true) (zos)) = true then
 (if zaE (Says zh9 [AV.sl (some (4, 0)) Z.length 0 false] (zni v n o A G E d B O Y Z) (AV.bool true) (zos)) = true then
 (if zaE (DifR [AV.sl (some (3, 0)) Y.length 0 false, AV.sl (some (4, 0)) Z.length 0 false] (zni v n o A G E d B O Y Z) (AV.sl (some (7, 0)) N 0 false) (zx4 l)) = true then
 (if zaE (q ∧ [AV.sl (some (3, 0)) Y.length 0 false, AV.sl (some (4, 0)) Z.length 0 false, AV.ptr (some (5, 0)), AV.sl (some (7, 0)) N 0 false, int i64 0] = [AV.sl (some (3, 0)) Y.length 0 false, AV.sl (some (4, 0)) Z.length 0 false, AV.ptr (some (5, 0)), AV.sl (some (7, 0)) N 0 false, int i64 0] ∧ (zn6 v n o A G E d B O Y Z l) = (zn6 v n o A G E d B O Y Z l)) = true then
 K (AV.bool true) ((zn6 v n o A G E d B O Y Z l))
 else none) else none) else none) else none) else none) else none) else none) else none) else none) else none) else none) else none) else none) := by
  kernel_rfl

noncomputable def zAp (d : List UInt8) : zaa := [cells (bys d) 1 Md.far none]
noncomputable def zzm (B : List UInt8) : zaa := [cells (bys B) 1 Md.own none]
noncomputable def zzj (d B : List UInt8) : zaa := [cells (bys d) 1 Md.far none, cells (bys B) 1 Md.own none]
noncomputable def zAa (O : List UInt8) : zaa := [cells (bys O) 1 Md.own none]
noncomputable def zzf (d B O : List UInt8) : zaa := [cells (bys d) 1 Md.far none, cells (bys B) 1 Md.own none, cells (bys O) 1 Md.own none]
noncomputable def zzl (Y : List UInt8) : zaa := [cells (bys Y) 1 Md.own none]
noncomputable def zAs (d B O Y : List UInt8) : zaa := [cells (bys d) 1 Md.far none, cells (bys B) 1 Md.own none, cells (bys O) 1 Md.own none, cells (bys Y) 1 Md.own none]
noncomputable def zAw (Z : List UInt8) : zaa := [cells (bys Z) 1 Md.own none]
noncomputable def zzT (d B O Y Z : List UInt8) : zaa := [cells (bys d) 1 Md.far none, cells (bys B) 1 Md.own none, cells (bys O) 1 Md.own none, cells (bys Y) 1 Md.own none, cells (bys Z) 1 Md.own none]
noncomputable def zoE : zaa := []
noncomputable def zyc (v : Bool) (n o A G E : Int) (d B O Y Z : List UInt8) : zaa := [cells (bys d) 1 Md.far none, cells (bys B) 1 Md.own none, cells (bys O) 1 Md.own none, cells (bys Y) 1 Md.own none, cells (bys Z) 1 Md.own none, cells [AV.bool v, int i64 A, int i64 G, int i64 E, b8 17, AV.bool v, b8 10, b8 (kb1 n), b8 (kb2 n), b8 (kb3 n), b8 0, b8 0, b8 0, b8 0, b8 0, b8 0, b8 0, b8 0, b8 0, b8 0, b8 0, b8 0, AV.bool v, b8 172, b8 16, b8 0, b8 (db3 o), b8 0, b8 0, b8 0, b8 0, b8 0, b8 0, b8 0, b8 0, b8 0, b8 0, b8 0, b8 0, int u16 (zat n), int u16 (zaF o), b8 0] 42 Md.own none]
noncomputable def znk (v : Bool) (n o A G E : Int) (d B O Y Z : List UInt8) : zaa := [cells (bys d) 1 Md.far none, cells (bys B) 1 Md.own none, cells (bys O) 1 Md.own none, cells (bys Y) 1 Md.own none, cells (bys Z) 1 Md.own none, cells [AV.bool v, int i64 A, int i64 G, int i64 E, b8 17, AV.bool v, b8 10, b8 (kb1 n), b8 (kb2 n), b8 (kb3 n), b8 0, b8 0, b8 0, b8 0, b8 0, b8 0, b8 0, b8 0, b8 0, b8 0, b8 0, b8 0, AV.bool v, b8 172, b8 16, b8 0, b8 (db3 o), b8 0, b8 0, b8 0, b8 0, b8 0, b8 0, b8 0, b8 0, b8 0, b8 0, b8 0, b8 0, int u16 (zat n), int u16 (zaF o), b8 0] 42 Md.own none, cells [AV.bool v, int i64 A, int i64 G, int i64 E, b8 17, AV.bool v, b8 10, b8 (kb1 n), b8 (kb2 n), b8 (kb3 n), b8 0, b8 0, b8 0, b8 0, b8 0, b8 0, b8 0, b8 0, b8 0, b8 0, b8 0, b8 0, AV.bool v, b8 172, b8 16, b8 0, b8 (db3 o), b8 0, b8 0, b8 0, b8 0, b8 0, b8 0, b8 0, b8 0, b8 0, b8 0, b8 0, b8 0, int u16 (zat n), int u16 (zaF o), b8 0] 42 Md.own none]
noncomputable def zyz (l : List Int) : zaa := [cells (List.map (int i64) l) 1 Md.own none]
noncomputable def zm8 (v : Bool) (n o A G E : Int) (d B O Y Z : List UInt8) (l : List Int) : zaa := [cells (bys d) 1 Md.far none, cells (bys B) 1 Md.own none, cells (bys O) 1 Md.own none, cells (bys Y) 1 Md.own none, cells (bys Z) 1 Md.own none, cells [AV.bool v, int i64 A, int i64 G, int i64 E, b8 17, AV.bool v, b8 10, b8 (kb1 n), b8 (kb2 n), b8 (kb3 n), b8 0, b8 0, b8 0, b8 0, b8 0, b8 0, b8 0, b8 0, b8 0, b8 0, b8 0, b8 0, AV.bool v, b8 172, b8 16, b8 0, b8 (db3 o), b8 0, b8 0, b8 0, b8 0, b8 0, b8 0, b8 0, b8 0, b8 0, b8 0, b8 0, b8 0, int u16 (zat n), int u16 (zaF o), b8 0] 42 Md.own none, cells [AV.bool v, int i64 A, int i64 G, int i64 E, b8 17, AV.bool v, b8 10, b8 (kb1 n), b8 (kb2 n), b8 (kb3 n), b8 0, b8 0, b8 0, b8 0, b8 0, b8 0, b8 0, b8 0, b8 0, b8 0, b8 0, b8 0, AV.bool v, b8 172, b8 16, b8 0, b8 (db3 o), b8 0, b8 0, b8 0, b8 0, b8 0, b8 0, b8 0, b8 0, b8 0, b8 0, b8 0, b8 0, int u16 (zat n), int u16 (zaF o), b8 0] 42 Md.own none, cells (List.map (int i64) l) 1 Md.own none]
theorem zy7 {R : Type} (q : Prop) (v : Bool) (n m o A G E : Int) (d B O Y Z : List UInt8) (l : List Int) (N : Nat) (K : AV → zaa → Option R) :
 zbs Try.prog (tRB B O Y Z (.tup [.agg (zaO v A G E 17 (zbD v n) (zfL v o) (zat n) (zaF o) 0), .int .i64 0]) l N) 100 4 [(29, .bool false), (77, .bool false), (97, .bool false), (108, .bool false)] [(15, zzc q mRB (vRB Y Z N 0) (hRB (zaC d) (zbo B) (zbo O) Y Z (zaO v A G E 17 (zbD v n) (zfL v o) (zat n) (zaF o) 0) (.cells (zaO v A G E 17 (zbD v n) (zfL v o) (zat n) (zaF o) 0) 42 .own none) (l.map (AV.int .i64))) (.exit 0) (vRB Y Z N N) (hRB (zaC d) (zbo B) (zbo O) Y Z (zaO v A G E 17 (zbD v n) (zfL v o) (zat n) (zaF o) 0) (.cells (zaO v A G E 17 (zbD v n) (zfL v o) (zat n) (zaF o) 0) 42 .own none) (l.map (AV.int .i64))))] 5 [.int .i64 n, .bool v, .bool true, slB 0 d, .int .i64 m, .int .i64 o] [zaC d] K =
 (if decide ((d.length : Int) > 400) = false then
 (if zaE (BuildR00 [AV.agg (zkT v true n), b8 0, AV.sl (some (0, 0)) d.length 0 false, AV.bool false, AV.bool false, int i64 0] (zAp d) (AV.sl (some (1, 0)) B.length 0 false) (zzm B)) = true then
 (if zaE (TgR [AV.sl (some (1, 0)) B.length 0 false, AV.agg (zfL v m ++ [.int .u16 (zaF m)])] (zzj d B) (AV.tup [AV.sl (some (2, 0)) O.length 0 false, AV.bool true]) (zAa O)) = true then
 (if zaE (TgR [AV.sl (some (2, 0)) O.length 0 false, AV.agg [AV.bool v, b8 172, b8 16, b8 0, b8 (db3 o), b8 0, b8 0, b8 0, b8 0, b8 0, b8 0, b8 0, b8 0, b8 0, b8 0, b8 0, b8 0, int u16 (zaF o)]] (zzf d B O) (AV.tup [AV.sl (some (3, 0)) Y.length 0 false, AV.bool true]) (zzl Y)) = true then
 (if zaE (TgR [AV.sl (some (1, 0)) B.length 0 false, AV.agg [AV.bool v, b8 172, b8 16, b8 0, b8 (db3 o), b8 0, b8 0, b8 0, b8 0, b8 0, b8 0, b8 0, b8 0, b8 0, b8 0, b8 0, b8 0, int u16 (zaF o)]] (zAs d B O Y) (AV.tup [AV.sl (some (4, 0)) Z.length 0 false, AV.bool true]) (zAw Z)) = true then
 (if ((Y.length : Int) != (Z.length : Int)) = false then
 (if zaE (Says zk7 [AV.sl (some (4, 0)) Z.length 0 false] (zzT d B O Y Z) (AV.tup [AV.agg [AV.bool v, int i64 A, int i64 G, int i64 E, b8 17, AV.bool v, b8 10, b8 (kb1 n), b8 (kb2 n), b8 (kb3 n), b8 0, b8 0, b8 0, b8 0, b8 0, b8 0, b8 0, b8 0, b8 0, b8 0, b8 0, b8 0, AV.bool v, b8 172, b8 16, b8 0, b8 (db3 o), b8 0, b8 0, b8 0, b8 0, b8 0, b8 0, b8 0, b8 0, b8 0, b8 0, b8 0, b8 0, int u16 (zat n), int u16 (zaF o), b8 0], int i64 0]) (zoE)) = true then
 (if zaE (Says zk7 [AV.sl (some (3, 0)) Y.length 0 false] (zyc v n o A G E d B O Y Z) (AV.tup [AV.agg [AV.bool v, int i64 A, int i64 G, int i64 E, b8 17, AV.bool v, b8 10, b8 (kb1 n), b8 (kb2 n), b8 (kb3 n), b8 0, b8 0, b8 0, b8 0, b8 0, b8 0, b8 0, b8 0, b8 0, b8 0, b8 0, b8 0, AV.bool v, b8 172, b8 16, b8 0, b8 (db3 o), b8 0, b8 0, b8 0, b8 0, b8 0, b8 0, b8 0, b8 0, b8 0, b8 0, b8 0, b8 0, int u16 (zat n), int u16 (zaF o), b8 0], int i64 0]) (zoE)) = true then
 (if (!(zbZ (some (AV.bool v)) == zbZ (some (AV.bool v)) && (zad (some (int i64 A)) == zad (some (int i64 A)) && (zad (some (int i64 G)) == zad (some (int i64 G)) && (zad (some (int i64 E)) == zad (some (int i64 E)) && (zad (some (b8 17)) == zad (some (b8 17)) && (zbZ (some (AV.bool v)) == zbZ (some (AV.bool v)) && (zad (some (b8 10)) == zad (some (b8 10)) && (zad (some (b8 (kb1 n))) == zad (some (b8 (kb1 n))) && (zad (some (b8 (kb2 n))) == zad (some (b8 (kb2 n))) && (zad (some (b8 (kb3 n))) == zad (some (b8 (kb3 n))) && (zad (some (b8 0)) == zad (some (b8 0)) && (zad (some (b8 0)) == zad (some (b8 0)) && (zad (some (b8 0)) == zad (some (b8 0)) && (zad (some (b8 0)) == zad (some (b8 0)) && (zad (some (b8 0)) == zad (some (b8 0)) && (zad (some (b8 0)) == zad (some (b8 0)) && (zad (some (b8 0)) == zad (some (b8 0)) && (zad (some (b8 0)) == zad (some (b8 0)) && (zad (some (b8 0)) == zad (some (b8 0)) && (zad (some (b8 0)) == zad (some (b8 0)) && (zad (some (b8 0)) == zad (some (b8 0)) && (zad (some (b8 0)) == zad (some (b8 0)) && true))))))))))))))) && true) && (zbZ (some (AV.bool v)) == zbZ (some (AV.bool v)) && (zad (some (b8 172)) == zad (some (b8 172)) && (zad (some (b8 16)) == zad (some (b8 16)) && (zad (some (b8 0)) == zad (some (b8 0)) && (zad (some (b8 (db3 o))) == zad (some (b8 (db3 o))) && (zad (some (b8 0)) == zad (some (b8 0)) && (zad (some (b8 0)) == zad (some (b8 0)) && (zad (some (b8 0)) == zad (some (b8 0)) && (zad (some (b8 0)) == zad (some (b8 0)) && (zad (some (b8 0)) == zad (some (b8 0)) && (zad (some (b8 0)) == zad (some (b8 0)) && (zad (some (b8 0)) == zad (some (b8 0)) && (zad (some (b8 0)) == zad (some (b8 0)) && (zad (some (b8 0)) == zad (some (b8 0)) && (zad (some (b8 0)) == zad (some (b8 0)) && (zad (some (b8 0)) == zad (some (b8 0)) && (zad (some (b8 0)) == zad (some (b8 0)) && true))))))))))))))) && true) && (zad (some (int u16 (zat n))) == zad (some (int u16 (zat n))) && (zad (some (int u16 (zaF o))) == zad (some (int u16 (zaF o))) && true)))) && (zad (some (b8 0)) == zad (some (b8 0)) && true))))))) = false then
 (if zaE (Says zh9 [AV.sl (some (3, 0)) Y.length 0 false] (znk v n o A G E d B O Y Z) (AV.bool true) (zoE)) = true then
 (if zaE (Says zh9 [AV.sl (some (4, 0)) Z.length 0 false] (znk v n o A G E d B O Y Z) (AV.bool true) (zoE)) = true then
 (if zaE (DifR [AV.sl (some (3, 0)) Y.length 0 false, AV.sl (some (4, 0)) Z.length 0 false] (znk v n o A G E d B O Y Z) (AV.sl (some (7, 0)) N 0 false) (zyz l)) = true then
 (if zaE (q ∧ [AV.sl (some (3, 0)) Y.length 0 false, AV.sl (some (4, 0)) Z.length 0 false, AV.ptr (some (5, 0)), AV.sl (some (7, 0)) N 0 false, int i64 0] = [AV.sl (some (3, 0)) Y.length 0 false, AV.sl (some (4, 0)) Z.length 0 false, AV.ptr (some (5, 0)), AV.sl (some (7, 0)) N 0 false, int i64 0] ∧ (zm8 v n o A G E d B O Y Z l) = (zm8 v n o A G E d B O Y Z l)) = true then
 K (AV.bool true) ((zm8 v n o A G E d B O Y Z l))
 else none) else none) else none) else none) else none) else none) else none) else none) else none) else none) else none) else none) else none) := by
  kernel_rfl


end Go.Proofs.Ytnchnjkakddhlaa.L
