/- EncapBack's run: what the kernel makes of it. -/
import Derived.Test.YtjkkhbeidhpghaaOutYK
import Derived.Test.YtjkkhbeidhpghaaOctB
import Derived.Test.YtjkkhbeidhpghaaAwake10
set_option autoImplicit false
set_option maxRecDepth 100000
set_option linter.unusedVariables false
set_option linter.unusedSimpArgs false
namespace Go.Proofs.Ytjkkhbeidhpghaa.L
open Go Go.Abs
open Go.IntKind
open Go.Abs.AV (int)
open Go.Abs.ABlk (cells)

noncomputable def tBK (F O Y : List UInt8) (m : Int) (d6 : Bool) (nv : AV) : Tbl := [(9, entF eKey), (10, entF eDip), (8, entF (eRel BuildR [(1, slB 1 F, [ownB F])])), (11, entF (eRel InR [(6, .tup [slB 6 O, .int .i64 0], [ownB O]), (7, .tup [slB 7 O, .int .i64 0], [ownB O])])),
  (13, entF (eRel OutYR [(7, .tup [slB 7 Y, .agg (dAdr d6 m), .bool true], [ownB Y]), (8, .tup [slB 8 Y, .agg (dAdr d6 m), .bool true], [ownB Y])])), (14, entF (eSay eRNet [(8, nv, []), (9, nv, []), (10, nv, [])])), (23, entF (eSay eRSum [(8, .int .i64 65535, []), (9, .int .i64 65535, []), (10, .int .i64 65535, [])])), (7, entF eAwake)]
theorem tBKOk (F O Y : List UInt8) (m : Int) (d6 : Bool) (nv : AV) : ∀ f E, (tBK F O Y m d6 nv).find f = some E → SoundE Try.prog f E := find_cons sKey (find_cons sDip (find_cons (sBuild _) (find_cons (sIn _) (find_cons (sOutY _) (find_cons (sSay sRNet _) (find_cons (sSay sRSum _) (find_cons sAwake (find_nil _))))))))
noncomputable def hBKF0 (v u t : Bool) (n pad m A : Int) (d F O Y : List UInt8) : AHeap := [cells (bys d) 1 Md.far none]
noncomputable def hBKF1 (v u t : Bool) (n pad m A : Int) (d F O Y : List UInt8) : AHeap := [cells (bys F) 1 Md.own none]
noncomputable def hBKF2 (v u t : Bool) (n pad m A : Int) (d F O Y : List UInt8) : AHeap := [cells (bys d) 1 Md.far none, cells (bys F) 1 Md.own none, cells [AV.bool false, int u8 172, int u8 16, int u8 0, int u8 (db3 m), int u8 0, int u8 0, int u8 0, int u8 0, int u8 0, int u8 0, int u8 0, int u8 0, int u8 0, int u8 0, int u8 0, int u8 0] 17 Md.own none, cells [AV.bool false, int u8 172, int u8 16, int u8 0, int u8 151, int u8 0, int u8 0, int u8 0, int u8 0, int u8 0, int u8 0, int u8 0, int u8 0, int u8 0, int u8 0, int u8 0, int u8 0] 17 Md.own none, cells [AV.bool false, int u8 172, int u8 16, int u8 0, int u8 151, int u8 0, int u8 0, int u8 0, int u8 0, int u8 0, int u8 0, int u8 0, int u8 0, int u8 0, int u8 0, int u8 0, int u8 0] 17 Md.own none, cells [AV.bool true, int u8 172, int u8 16, int u8 0, int u8 151, int u8 0, int u8 0, int u8 0, int u8 0, int u8 0, int u8 0, int u8 0, int u8 0, int u8 0, int u8 0, int u8 0, int u8 0] 17 Md.own none, cells [AV.bool true, int u8 172, int u8 16, int u8 0, int u8 151, int u8 0, int u8 0, int u8 0, int u8 0, int u8 0, int u8 0, int u8 0, int u8 0, int u8 0, int u8 0, int u8 0, int u8 0] 17 Md.own none]
noncomputable def hBKF3 (v u t : Bool) (n pad m A : Int) (d F O Y : List UInt8) : AHeap := [cells (bys O) 1 Md.own none]
noncomputable def hBKF4 (v u t : Bool) (n pad m A : Int) (d F O Y : List UInt8) : AHeap := (hBKF2 v u t n pad m A d F O Y) ++ [cells (bys O) 1 Md.own none]
noncomputable def hBKF5 (v u t : Bool) (n pad m A : Int) (d F O Y : List UInt8) : AHeap := [cells (bys Y) 1 Md.own none]
noncomputable def hBKF6 (v u t : Bool) (n pad m A : Int) (d F O Y : List UInt8) : AHeap := (hBKF4 v u t n pad m A d F O Y) ++ [cells (bys Y) 1 Md.own none, cells [AV.bool false, int u8 172, int u8 16, int u8 0, int u8 (db3 m), int u8 0, int u8 0, int u8 0, int u8 0, int u8 0, int u8 0, int u8 0, int u8 0, int u8 0, int u8 0, int u8 0, int u8 0] 17 Md.own none]
noncomputable def hBKF7 (v u t : Bool) (n pad m A : Int) (d F O Y : List UInt8) : AHeap := []
theorem nfBKF {R : Type} (v u t : Bool) (n pad m A : Int) (d F O Y : List UInt8) (K : AV → Option R) :
 qrun Try.prog (tBK F O Y m false (.tup [.int .i64 A, .int .i64 2048, .int .i64 0])) 100 5 [(32, .bool false), (36, .bool false), (39, .bool false), (86, .bool false), (98, .bool false), (111, .bool true), (122, .bool true), (140, .bool true)] [] 3 [.int .i64 n, .bool v, .bool u, slB 0 d, .bool t, .int .i64 pad, .int .i64 m, .bool false] [farB d] (fun v _ => K v) =
 (if decide ((d.length : Int) > 400) = false then
 (if decide (pad < 0) = false then
 (if decide (pad > 40) = false then
 (if cdec (BuildR [AV.agg [int u8 (if u = true then 17 else 6), AV.bool v, int u8 10, int u8 (kb1 n), int u8 (kb2 n), int u8 (kb3 n), int u8 0, int u8 0, int u8 0, int u8 0, int u8 0, int u8 0, int u8 0, int u8 0, int u8 0, int u8 0, int u8 0, int u8 0, AV.bool v, int u8 192, int u8 168, int u8 0, int u8 1, int u8 0, int u8 0, int u8 0, int u8 0, int u8 0, int u8 0, int u8 0, int u8 0, int u8 0, int u8 0, int u8 0, int u8 0, int u16 (kport n), int u16 80], int u8 0, AV.sl (some (0, 0)) d.length 0 false, AV.bool t, AV.bool false, int i64 pad] (hBKF0 v u t n pad m A d F O Y) (AV.sl (some (1, 0)) F.length 0 false) (hBKF1 v u t n pad m A d F O Y)) = true then
 (if cdec (InR [AV.sl (some (1, 0)) F.length 0 false, AV.agg [AV.bool false, int u8 172, int u8 16, int u8 0, int u8 151, int u8 0, int u8 0, int u8 0, int u8 0, int u8 0, int u8 0, int u8 0, int u8 0, int u8 0, int u8 0, int u8 0, int u8 0], AV.agg [AV.bool true, int u8 172, int u8 16, int u8 0, int u8 151, int u8 0, int u8 0, int u8 0, int u8 0, int u8 0, int u8 0, int u8 0, int u8 0, int u8 0, int u8 0, int u8 0, int u8 0], AV.agg [AV.bool false, int u8 172, int u8 16, int u8 0, int u8 (db3 m), int u8 0, int u8 0, int u8 0, int u8 0, int u8 0, int u8 0, int u8 0, int u8 0, int u8 0, int u8 0, int u8 0, int u8 0]] (hBKF2 v u t n pad m A d F O Y) (AV.tup [AV.sl (some (7, 0)) O.length 0 false, int i64 0]) (hBKF3 v u t n pad m A d F O Y)) = true then
 (if (AV.agg [AV.bool false, int u8 172, int u8 16, int u8 0, int u8 (db3 m), int u8 0, int u8 0, int u8 0, int u8 0, int u8 0, int u8 0, int u8 0, int u8 0, int u8 0, int u8 0, int u8 0, int u8 0]).beq (AV.agg [AV.bool false, int u8 172, int u8 16, int u8 0, int u8 (db3 m), int u8 0, int u8 0, int u8 0, int u8 0, int u8 0, int u8 0, int u8 0, int u8 0, int u8 0, int u8 0, int u8 0, int u8 0]) = true then
 (if (AV.agg [AV.bool false, int u8 172, int u8 16, int u8 0, int u8 (db3 m), int u8 0, int u8 0, int u8 0, int u8 0, int u8 0, int u8 0, int u8 0, int u8 0, int u8 0, int u8 0, int u8 0, int u8 0]).beq (AV.agg [AV.bool false, int u8 172, int u8 16, int u8 0, int u8 (db3 m), int u8 0, int u8 0, int u8 0, int u8 0, int u8 0, int u8 0, int u8 0, int u8 0, int u8 0, int u8 0, int u8 0, int u8 0]) = true then
 (if cdec (OutYR [AV.sl (some (7, 0)) O.length 0 false] (hBKF4 v u t n pad m A d F O Y) (AV.tup [AV.sl (some (8, 0)) Y.length 0 false, AV.agg [AV.bool false, int u8 172, int u8 16, int u8 0, int u8 (db3 m), int u8 0, int u8 0, int u8 0, int u8 0, int u8 0, int u8 0, int u8 0, int u8 0, int u8 0, int u8 0, int u8 0, int u8 0], AV.bool true]) (hBKF5 v u t n pad m A d F O Y)) = true then
 (if cdec (Says eRNet [AV.sl (some (7, 0)) O.length 0 false] (hBKF6 v u t n pad m A d F O Y) (AV.tup [int i64 A, int i64 2048, int i64 0]) (hBKF7 v u t n pad m A d F O Y)) = true then
 (if (!(boolV (some (AV.bool false)) == boolV (some (AV.bool false)) && (intV (some (int u8 172)) == intV (some (int u8 172)) && (intV (some (int u8 16)) == intV (some (int u8 16)) && (intV (some (int u8 0)) == intV (some (int u8 0)) && (intV (some (int u8 (db3 m))) == intV (some (int u8 (db3 m))) && (intV (some (int u8 0)) == intV (some (int u8 0)) && (intV (some (int u8 0)) == intV (some (int u8 0)) && (intV (some (int u8 0)) == intV (some (int u8 0)) && (intV (some (int u8 0)) == intV (some (int u8 0)) && (intV (some (int u8 0)) == intV (some (int u8 0)) && (intV (some (int u8 0)) == intV (some (int u8 0)) && (intV (some (int u8 0)) == intV (some (int u8 0)) && (intV (some (int u8 0)) == intV (some (int u8 0)) && (intV (some (int u8 0)) == intV (some (int u8 0)) && (intV (some (int u8 0)) == intV (some (int u8 0)) && (intV (some (int u8 0)) == intV (some (int u8 0)) && (intV (some (int u8 0)) == intV (some (int u8 0)) && true))))))))))))))) && true))) = false then
 (if 0 + Y.length ≤ (bys Y).length then
 (if (List.take Y.length (bys Y)).all isByte = true then
 (if 0 ≤ i64.wrap ((F.length : Int) - pad) ∧ i64.wrap ((F.length : Int) - pad) ≤ (((capOf F.length 0 false) : Nat) : Int) then
 (if 0 + ((i64.wrap ((F.length : Int) - pad)).toNat - 0) ≤ (bys F).length then
 (if (List.take ((i64.wrap ((F.length : Int) - pad)).toNat - 0) (bys F)).all isByte = true then
 (if (!decide (List.map byteD (List.take Y.length (bys Y)) = List.map byteD (List.take ((i64.wrap ((F.length : Int) - pad)).toNat - 0) (bys F)))) = false then
 (if ((O.length : Int) == i64.wrap ((Y.length : Int) + 20)) = true then
 (if 0 ≤ i64.wrap (A + 20) ∧ i64.wrap (A + 20) ≤ (((capOf O.length 0 false) : Nat) : Int) then
 (if 0 ≤ A ∧ A ≤ i64.wrap (A + 20) then
 (if cdec (Says eRSum [AV.sl (some (7, 0 + A.toNat * 1)) ((i64.wrap (A + 20)).toNat - A.toNat) (roomOf O.length 0 A.toNat (some (i64.wrap (A + 20))).isNone (i64.wrap (A + 20)).toNat false) false, int u32 0] (hBKF6 v u t n pad m A d F O Y) (int i64 65535) (hBKF7 v u t n pad m A d F O Y)) = true then
 (if 0 ≤ i64.wrap (A + 20) ∧ i64.wrap (A + 20) ≤ (O.length : Int) then
 (if 0 + (i64.wrap (A + 20)).toNat * 1 + (O.length - (i64.wrap (A + 20)).toNat) ≤ (bys O).length then
 (if (List.take (O.length - (i64.wrap (A + 20)).toNat) (List.drop (0 + (i64.wrap (A + 20)).toNat * 1) (bys O))).all isByte = true then
 (if 0 ≤ i64.wrap ((F.length : Int) - pad) ∧ i64.wrap ((F.length : Int) - pad) ≤ (((capOf F.length 0 false) : Nat) : Int) then
 (if 0 ≤ A ∧ A ≤ i64.wrap ((F.length : Int) - pad) then
 (if 0 + A.toNat * 1 + ((i64.wrap ((F.length : Int) - pad)).toNat - A.toNat) ≤ (bys F).length then
 (if (List.take ((i64.wrap ((F.length : Int) - pad)).toNat - A.toNat) (List.drop (0 + A.toNat * 1) (bys F))).all isByte = true then
 (if decide (List.map byteD (List.take (O.length - (i64.wrap (A + 20)).toNat) (List.drop (0 + (i64.wrap (A + 20)).toNat * 1) (bys O))) = List.map byteD (List.take ((i64.wrap ((F.length : Int) - pad)).toNat - A.toNat) (List.drop (0 + A.toNat * 1) (bys F)))) = true then
 K (AV.bool true)
 else none) else none) else none) else none) else none) else none) else none) else none) else none) else none) else none) else none) else none) else none) else none) else none) else none) else none) else none) else none) else none) else none) else none) else none) else none) else none) else none) else none) := by
  kernel_rfl

noncomputable def hBKT0 (v u t : Bool) (n pad m A : Int) (d F O Y : List UInt8) : AHeap := [cells (bys d) 1 Md.far none]
noncomputable def hBKT1 (v u t : Bool) (n pad m A : Int) (d F O Y : List UInt8) : AHeap := [cells (bys F) 1 Md.own none]
noncomputable def hBKT2 (v u t : Bool) (n pad m A : Int) (d F O Y : List UInt8) : AHeap := ((hBKF2 v u t n pad m A d F O Y).set 2 (cells [AV.bool true, int u8 172, int u8 16, int u8 0, int u8 (db3 m), int u8 0, int u8 0, int u8 0, int u8 0, int u8 0, int u8 0, int u8 0, int u8 0, int u8 0, int u8 0, int u8 0, int u8 0] 17 Md.own none))
noncomputable def hBKT3 (v u t : Bool) (n pad m A : Int) (d F O Y : List UInt8) : AHeap := [cells (bys O) 1 Md.own none]
noncomputable def hBKT4 (v u t : Bool) (n pad m A : Int) (d F O Y : List UInt8) : AHeap := (hBKT2 v u t n pad m A d F O Y) ++ [cells (bys O) 1 Md.own none]
noncomputable def hBKT5 (v u t : Bool) (n pad m A : Int) (d F O Y : List UInt8) : AHeap := [cells (bys Y) 1 Md.own none]
noncomputable def hBKT6 (v u t : Bool) (n pad m A : Int) (d F O Y : List UInt8) : AHeap := (hBKT4 v u t n pad m A d F O Y) ++ [cells (bys Y) 1 Md.own none, cells [AV.bool true, int u8 172, int u8 16, int u8 0, int u8 (db3 m), int u8 0, int u8 0, int u8 0, int u8 0, int u8 0, int u8 0, int u8 0, int u8 0, int u8 0, int u8 0, int u8 0, int u8 0] 17 Md.own none]
noncomputable def hBKT7 (v u t : Bool) (n pad m A : Int) (d F O Y : List UInt8) : AHeap := []
theorem nfBKT {R : Type} (v u t : Bool) (n pad m A : Int) (d F O Y : List UInt8) (K : AV → Option R) :
 qrun Try.prog (tBK F O Y m true (.tup [.int .i64 A, .int .i64 34525, .int .i64 0])) 100 5 [(32, .bool false), (36, .bool false), (39, .bool false), (86, .bool false), (98, .bool false), (111, .bool true), (140, .bool true)] [] 3 [.int .i64 n, .bool v, .bool u, slB 0 d, .bool t, .int .i64 pad, .int .i64 m, .bool true] [farB d] (fun v _ => K v) =
 (if decide ((d.length : Int) > 400) = false then
 (if decide (pad < 0) = false then
 (if decide (pad > 40) = false then
 (if cdec (BuildR [AV.agg [int u8 (if u = true then 17 else 6), AV.bool v, int u8 10, int u8 (kb1 n), int u8 (kb2 n), int u8 (kb3 n), int u8 0, int u8 0, int u8 0, int u8 0, int u8 0, int u8 0, int u8 0, int u8 0, int u8 0, int u8 0, int u8 0, int u8 0, AV.bool v, int u8 192, int u8 168, int u8 0, int u8 1, int u8 0, int u8 0, int u8 0, int u8 0, int u8 0, int u8 0, int u8 0, int u8 0, int u8 0, int u8 0, int u8 0, int u8 0, int u16 (kport n), int u16 80], int u8 0, AV.sl (some (0, 0)) d.length 0 false, AV.bool t, AV.bool false, int i64 pad] (hBKT0 v u t n pad m A d F O Y) (AV.sl (some (1, 0)) F.length 0 false) (hBKT1 v u t n pad m A d F O Y)) = true then
 (if cdec (InR [AV.sl (some (1, 0)) F.length 0 false, AV.agg [AV.bool false, int u8 172, int u8 16, int u8 0, int u8 151, int u8 0, int u8 0, int u8 0, int u8 0, int u8 0, int u8 0, int u8 0, int u8 0, int u8 0, int u8 0, int u8 0, int u8 0], AV.agg [AV.bool true, int u8 172, int u8 16, int u8 0, int u8 151, int u8 0, int u8 0, int u8 0, int u8 0, int u8 0, int u8 0, int u8 0, int u8 0, int u8 0, int u8 0, int u8 0, int u8 0], AV.agg [AV.bool true, int u8 172, int u8 16, int u8 0, int u8 (db3 m), int u8 0, int u8 0, int u8 0, int u8 0, int u8 0, int u8 0, int u8 0, int u8 0, int u8 0, int u8 0, int u8 0, int u8 0]] (hBKT2 v u t n pad m A d F O Y) (AV.tup [AV.sl (some (7, 0)) O.length 0 false, int i64 0]) (hBKT3 v u t n pad m A d F O Y)) = true then
 (if (AV.agg [AV.bool true, int u8 172, int u8 16, int u8 0, int u8 (db3 m), int u8 0, int u8 0, int u8 0, int u8 0, int u8 0, int u8 0, int u8 0, int u8 0, int u8 0, int u8 0, int u8 0, int u8 0]).beq (AV.agg [AV.bool true, int u8 172, int u8 16, int u8 0, int u8 (db3 m), int u8 0, int u8 0, int u8 0, int u8 0, int u8 0, int u8 0, int u8 0, int u8 0, int u8 0, int u8 0, int u8 0, int u8 0]) = true then
 (if (AV.agg [AV.bool true, int u8 172, int u8 16, int u8 0, int u8 (db3 m), int u8 0, int u8 0, int u8 0, int u8 0, int u8 0, int u8 0, int u8 0, int u8 0, int u8 0, int u8 0, int u8 0, int u8 0]).beq (AV.agg [AV.bool true, int u8 172, int u8 16, int u8 0, int u8 (db3 m), int u8 0, int u8 0, int u8 0, int u8 0, int u8 0, int u8 0, int u8 0, int u8 0, int u8 0, int u8 0, int u8 0, int u8 0]) = true then
 (if cdec (OutYR [AV.sl (some (7, 0)) O.length 0 false] (hBKT4 v u t n pad m A d F O Y) (AV.tup [AV.sl (some (8, 0)) Y.length 0 false, AV.agg [AV.bool true, int u8 172, int u8 16, int u8 0, int u8 (db3 m), int u8 0, int u8 0, int u8 0, int u8 0, int u8 0, int u8 0, int u8 0, int u8 0, int u8 0, int u8 0, int u8 0, int u8 0], AV.bool true]) (hBKT5 v u t n pad m A d F O Y)) = true then
 (if cdec (Says eRNet [AV.sl (some (7, 0)) O.length 0 false] (hBKT6 v u t n pad m A d F O Y) (AV.tup [int i64 A, int i64 34525, int i64 0]) (hBKT7 v u t n pad m A d F O Y)) = true then
 (if (!(boolV (some (AV.bool true)) == boolV (some (AV.bool true)) && (intV (some (int u8 172)) == intV (some (int u8 172)) && (intV (some (int u8 16)) == intV (some (int u8 16)) && (intV (some (int u8 0)) == intV (some (int u8 0)) && (intV (some (int u8 (db3 m))) == intV (some (int u8 (db3 m))) && (intV (some (int u8 0)) == intV (some (int u8 0)) && (intV (some (int u8 0)) == intV (some (int u8 0)) && (intV (some (int u8 0)) == intV (some (int u8 0)) && (intV (some (int u8 0)) == intV (some (int u8 0)) && (intV (some (int u8 0)) == intV (some (int u8 0)) && (intV (some (int u8 0)) == intV (some (int u8 0)) && (intV (some (int u8 0)) == intV (some (int u8 0)) && (intV (some (int u8 0)) == intV (some (int u8 0)) && (intV (some (int u8 0)) == intV (some (int u8 0)) && (intV (some (int u8 0)) == intV (some (int u8 0)) && (intV (some (int u8 0)) == intV (some (int u8 0)) && (intV (some (int u8 0)) == intV (some (int u8 0)) && true))))))))))))))) && true))) = false then
 (if 0 + Y.length ≤ (bys Y).length then
 (if (List.take Y.length (bys Y)).all isByte = true then
 (if 0 ≤ i64.wrap ((F.length : Int) - pad) ∧ i64.wrap ((F.length : Int) - pad) ≤ (((capOf F.length 0 false) : Nat) : Int) then
 (if 0 + ((i64.wrap ((F.length : Int) - pad)).toNat - 0) ≤ (bys F).length then
 (if (List.take ((i64.wrap ((F.length : Int) - pad)).toNat - 0) (bys F)).all isByte = true then
 (if (!decide (List.map byteD (List.take Y.length (bys Y)) = List.map byteD (List.take ((i64.wrap ((F.length : Int) - pad)).toNat - 0) (bys F)))) = false then
 (if ((O.length : Int) == i64.wrap ((Y.length : Int) + 40)) = true then
 (if 0 ≤ i64.wrap (A + 40) ∧ i64.wrap (A + 40) ≤ (O.length : Int) then
 (if 0 + (i64.wrap (A + 40)).toNat * 1 + (O.length - (i64.wrap (A + 40)).toNat) ≤ (bys O).length then
 (if (List.take (O.length - (i64.wrap (A + 40)).toNat) (List.drop (0 + (i64.wrap (A + 40)).toNat * 1) (bys O))).all isByte = true then
 (if 0 ≤ i64.wrap ((F.length : Int) - pad) ∧ i64.wrap ((F.length : Int) - pad) ≤ (((capOf F.length 0 false) : Nat) : Int) then
 (if 0 ≤ A ∧ A ≤ i64.wrap ((F.length : Int) - pad) then
 (if 0 + A.toNat * 1 + ((i64.wrap ((F.length : Int) - pad)).toNat - A.toNat) ≤ (bys F).length then
 (if (List.take ((i64.wrap ((F.length : Int) - pad)).toNat - A.toNat) (List.drop (0 + A.toNat * 1) (bys F))).all isByte = true then
 (if decide (List.map byteD (List.take (O.length - (i64.wrap (A + 40)).toNat) (List.drop (0 + (i64.wrap (A + 40)).toNat * 1) (bys O))) = List.map byteD (List.take ((i64.wrap ((F.length : Int) - pad)).toNat - A.toNat) (List.drop (0 + A.toNat * 1) (bys F)))) = true then
 K (AV.bool true)
 else none) else none) else none) else none) else none) else none) else none) else none) else none) else none) else none) else none) else none) else none) else none) else none) else none) else none) else none) else none) else none) else none) else none) else none) else none) := by
  kernel_rfl

theorem nfBKX1 {R : Type} (v u t d6 : Bool) (n pad m : Int) (d : List UInt8) (K : AV → Option R) :
 qrun Try.prog (tBK [] [] [] 0 false .nilFn) 100 5 [(32, .bool true)] [] 3 [.int .i64 n, .bool v, .bool u, slB 0 d, .bool t, .int .i64 pad, .int .i64 m, .bool d6] [farB d] (fun v _ => K v) =
 (if decide ((d.length : Int) > 400) = true then
 K (AV.bool true)
 else none) := by
  kernel_rfl

theorem nfBKX2 {R : Type} (v u t d6 : Bool) (n pad m : Int) (d : List UInt8) (K : AV → Option R) :
 qrun Try.prog (tBK [] [] [] 0 false .nilFn) 100 5 [(32, .bool false), (36, .bool true)] [] 3 [.int .i64 n, .bool v, .bool u, slB 0 d, .bool t, .int .i64 pad, .int .i64 m, .bool d6] [farB d] (fun v _ => K v) =
 (if decide ((d.length : Int) > 400) = false then
 (if decide (pad < 0) = true then
 K (AV.bool true)
 else none) else none) := by
  kernel_rfl

theorem nfBKX3 {R : Type} (v u t d6 : Bool) (n pad m : Int) (d : List UInt8) (K : AV → Option R) :
 qrun Try.prog (tBK [] [] [] 0 false .nilFn) 100 5 [(32, .bool false), (36, .bool false), (39, .bool true)] [] 3 [.int .i64 n, .bool v, .bool u, slB 0 d, .bool t, .int .i64 pad, .int .i64 m, .bool d6] [farB d] (fun v _ => K v) =
 (if decide ((d.length : Int) > 400) = false then
 (if decide (pad < 0) = false then
 (if decide (pad > 40) = true then
 K (AV.bool true)
 else none) else none) else none) := by
  kernel_rfl


end Go.Proofs.Ytjkkhbeidhpghaa.L
