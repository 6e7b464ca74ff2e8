/- encap.In: what the kernel makes of it. -/
import Derived.Test.YtjkkhbeidhpghaaPRead
import Derived.Test.YtjkkhbeidhpghaaGoodF
import Derived.Test.YtjkkhbeidhpghaaWith
import Derived.Test.YtjkkhbeidhpghaaSayFour
import Derived.Test.YtjkkhbeidhpghaaSgbKit
import Derived.Test.YtjkkhbeidhpghaaBuild
set_option autoImplicit false
set_option maxRecDepth 100000
set_option linter.unusedVariables false
set_option linter.unusedSimpArgs false
namespace Go.Proofs.Ytjkkhbeidhpghaa.L
open Go Go.Abs
open Go.IntKind
open Go.Abs.AV (int)
open Go.Abs.ABlk (cells)

abbrev nT (x y z : Nat) : Nat := (w6 (w6 (w6 (w6 (0 + (x : Int)) + (y : Int)) + (z : Int)) - 0)).toNat
abbrev tk (l : List UInt8) : List AV := List.take (l.length * 1) (bys l)
noncomputable def tIn (v m4 m6 : AV) (M W : List UInt8) : Tbl := [(25, entF (eSay eFrR [(4, v, [])])), (27, entF (eSay eMk4 [(4, .tup [slB 4 M, .bool true], [ownB M]), (5, .tup [slB 5 M, .bool true], [ownB M]), (6, .tup [slB 6 M, .bool true], [ownB M]), (7, .tup [slB 7 M, .bool true], [ownB M]), (8, .tup [slB 8 M, .bool true], [ownB M]), (9, .tup [slB 9 M, .bool true], [ownB M])])), (28, entF (eSay eMk6 [(4, .tup [slB 4 M, .bool true], [ownB M]), (5, .tup [slB 5 M, .bool true], [ownB M]), (6, .tup [slB 6 M, .bool true], [ownB M]), (7, .tup [slB 7 M, .bool true], [ownB M]), (8, .tup [slB 8 M, .bool true], [ownB M]), (9, .tup [slB 9 M, .bool true], [ownB M])])),
  (30, entF (eSay eWith [(4, slB 4 W, [ownB W]), (5, slB 5 W, [ownB W]), (6, slB 6 W, [ownB W]), (7, slB 7 W, [ownB W]), (8, slB 8 W, [ownB W]), (9, slB 9 W, [ownB W])]))]
theorem tInOk (v m4 m6 : AV) (M W : List UInt8) : ∀ f E, (tIn v m4 m6 M W).find f = some E → SoundE Try.prog f E := find_cons (sSay sPRead _) (find_cons (sSay sMk4 _) (find_cons (sSay sMk6 _) (find_cons (sSay sWith _) (find_nil _))))
noncomputable def hInFF0 (l M W : List UInt8) (a b : UInt8) (m n A S E p sp dp fl : Int) : AHeap := [cells (bys l) 1 Md.far none, cells (dAdr false 150) 17 Md.own none, cells (dAdr true 150) 17 Md.own none, cells (dAdr false m) 17 Md.own none]
noncomputable def hInFF1 (l M W : List UInt8) (a b : UInt8) (m n A S E p sp dp fl : Int) : AHeap := []
noncomputable def hInFF2 (l M W : List UInt8) (a b : UInt8) (m n A S E p sp dp fl : Int) : AHeap := (hInFF0 l M W a b m n A S E p sp dp fl) ++ [cells (viewOf false A S E p (kSrc false n) (kDst false) sp dp fl) 42 Md.own none, cells (dAdr false m) 17 Md.own none, cells (dAdr false 150) 17 Md.own none]
noncomputable def hInFF3 (l M W : List UInt8) (a b : UInt8) (m n A S E p sp dp fl : Int) : AHeap := [cells (bys (b :: M)) 1 Md.own none]
noncomputable def hInFF4 (l M W : List UInt8) (a b : UInt8) (m n A S E p sp dp fl : Int) : AHeap := (hInFF2 l M W a b m n A S E p sp dp fl) ++ [cells (bys (b :: M)) 1 Md.own none]
noncomputable def hInFF5 (l M W : List UInt8) (a b : UInt8) (m n A S E p sp dp fl : Int) : AHeap := [cells (bys (a :: W)) 1 Md.own none]
noncomputable def hInFF6 (l M W : List UInt8) (a b : UInt8) (m n A S E p sp dp fl : Int) : AHeap := (hInFF4 l M W a b m n A S E p sp dp fl) ++ [cells (bys (a :: W)) 1 Md.own none, cells [AV.sl (some (8, 0)) (a :: W).length 0 false, AV.sl (some (7, 0)) (b :: M).length 0 false, AV.sl (some (0, 0 + (iv A).toNat * 1)) ((iv E).toNat - (iv A).toNat) (roomOf l.length 0 (iv A).toNat (some (iv E)).isNone (iv E).toNat false) false] 1 Md.own none, ABlk.dead, ABlk.dead, cells (List.take ((0 + (a :: W).length) * 1) (tk (a :: W)) ++ tk (b :: M)) 1 Md.ro none, cells (List.take ((0 + (a :: W).length + (b :: M).length) * 1) (List.take ((0 + (a :: W).length) * 1) (tk (a :: W)) ++ tk (b :: M)) ++ List.take (((iv E).toNat - (iv A).toNat) * 1) (List.drop (0 + (iv A).toNat * 1) (bys l))) 1 Md.own (some 12)]
noncomputable def hInFF7 (l M W : List UInt8) (a b : UInt8) (m n A S E p sp dp fl : Int) : AHeap := (hInFF6 l M W a b m n A S E p sp dp fl).take 11 ++ [cells (List.take ((0 + (a :: W).length) * 1) (putCells (zrep (nT (a :: W).length (b :: M).length ((iv E).toNat - (iv A).toNat)) [b8 0]) 0 (tk (a :: W))) ++ tk (b :: M)) 1 Md.ro none, cells (List.take ((0 + (a :: W).length + (b :: M).length) * 1) (List.take ((0 + (a :: W).length) * 1) (putCells (zrep (nT (a :: W).length (b :: M).length ((iv E).toNat - (iv A).toNat)) [b8 0]) 0 (tk (a :: W))) ++ tk (b :: M)) ++ List.take (((iv E).toNat - (iv A).toNat) * 1) (List.drop (0 + (iv A).toNat * 1) (bys l))) 1 Md.own (some 11)]
noncomputable def hInFF8 (l M W : List UInt8) (a b : UInt8) (m n A S E p sp dp fl : Int) : AHeap := (hInFF6 l M W a b m n A S E p sp dp fl).take 10 ++ [cells (putCells (putCells (zrep (nT (a :: W).length (b :: M).length ((iv E).toNat - (iv A).toNat)) [b8 0]) 0 (tk (a :: W))) (0 + (0 + (a :: W).length) * 1) (tk (b :: M))) 1 Md.ro none, cells (List.take ((0 + (a :: W).length + (b :: M).length) * 1) (putCells (putCells (zrep (nT (a :: W).length (b :: M).length ((iv E).toNat - (iv A).toNat)) [b8 0]) 0 (tk (a :: W))) (0 + (0 + (a :: W).length) * 1) (tk (b :: M))) ++ List.take (((iv E).toNat - (iv A).toNat) * 1) (List.drop (0 + (iv A).toNat * 1) (bys l))) 1 Md.own (some 10)]
noncomputable def hInFF9 (l M W : List UInt8) (a b : UInt8) (m n A S E p sp dp fl : Int) : AHeap := (hInFF6 l M W a b m n A S E p sp dp fl).take 10 ++ [cells (putCells (putCells (zrep (nT (a :: W).length (b :: M).length ((iv E).toNat - (iv A).toNat)) [b8 0]) 0 (tk (a :: W))) (0 + (0 + (a :: W).length) * 1) (tk (b :: M))) 1 Md.own none]
noncomputable def hInFF10 (l M W : List UInt8) (a b : UInt8) (m n A S E p sp dp fl : Int) : AHeap := ((hInFF9 l M W a b m n A S E p sp dp fl).set 10 (cells (putCells (putCells (putCells (zrep (nT (a :: W).length (b :: M).length ((iv E).toNat - (iv A).toNat)) [b8 0]) 0 (tk (a :: W))) (0 + (0 + (a :: W).length) * 1) (tk (b :: M))) (0 + (0 + (a :: W).length + (b :: M).length) * 1) (List.take (((iv E).toNat - (iv A).toNat) * 1) (List.drop (0 + (iv A).toNat * 1) (bys l)))) 1 Md.own none))
noncomputable def hInFF11 (l M W : List UInt8) (a b : UInt8) (m n A S E p sp dp fl : Int) : AHeap := (hInFF6 l M W a b m n A S E p sp dp fl).take 11 ++ [cells (List.take ((a :: W).length * 1) (tk (a :: W)) ++ tk (b :: M)) 1 Md.ro none, cells (List.take (((a :: W).length + (b :: M).length) * 1) (List.take ((a :: W).length * 1) (tk (a :: W)) ++ tk (b :: M)) ++ List.take (((iv E).toNat - (iv A).toNat) * 1) (List.drop (0 + (iv A).toNat * 1) (bys l))) 1 Md.own (some 11)]
theorem nfInFF {R : Type} (l M W : List UInt8) (a b : UInt8) (m n A S E p sp dp fl : Int) (K : AV → AHeap → Option R) :
 qrun Try.prog (tIn (.tup [.agg (viewOf false A S E p (kSrc false n) (kDst false) sp dp fl), .int .i64 0]) .nilFn .nilFn (b :: M) (a :: W)) 100 5 [(24, .bool false), (61, .bool false)] [] 11 [slB 0 l, .agg (dAdr false 150), .agg (dAdr true 150), .agg (dAdr false m)] [farB l] K =
 (if cdec (Says eFrR [AV.sl (some (0, 0)) l.length 0 false] (hInFF0 l M W a b m n A S E p sp dp fl) (AV.tup [AV.agg (viewOf false A S E p (kSrc false n) (kDst false) sp dp fl), int i64 0]) (hInFF1 l M W a b m n A S E p sp dp fl)) = true then
 (if 0 ≤ iv E ∧ iv E ≤ (((capOf l.length 0 false) : Nat) : Int) then
 (if 0 ≤ iv A ∧ iv A ≤ iv E then
 (if decide (w6 (w6 (iv A + 20) + ((((iv E).toNat - (iv A).toNat) : Nat) : Int)) > 65535) = false then
 (if cdec (Says eMk4 [AV.agg (dAdr false 150), AV.agg (dAdr false m), b8 4, int i64 ((((iv E).toNat - (iv A).toNat) : Nat) : Int)] (hInFF2 l M W a b m n A S E p sp dp fl) (AV.tup [AV.sl (some (7, 0)) (b :: M).length 0 false, AV.bool true]) (hInFF3 l M W a b m n A S E p sp dp fl)) = true then
 (if cdec (Says eWith [AV.sl (some (0, 0)) l.length 0 false, int u16 2048] (hInFF4 l M W a b m n A S E p sp dp fl) (AV.sl (some (8, 0)) (a :: W).length 0 false) (hInFF5 l M W a b m n A S E p sp dp fl)) = true then
 (if decide (w6 (0 + ((a :: W).length : Int)) < 0) = true then
 none
 else (if decide (w6 (w6 (0 + ((a :: W).length : Int)) + ((b :: M).length : Int)) < 0) = true then
 none
 else (if decide (w6 (w6 (w6 (0 + ((a :: W).length : Int)) + ((b :: M).length : Int)) + ((((iv E).toNat - (iv A).toNat) : Nat) : Int)) < 0) = true then
 none
 else (if decide (w6 (w6 (w6 (0 + ((a :: W).length : Int)) + ((b :: M).length : Int)) + ((((iv E).toNat - (iv A).toNat) : Nat) : Int)) < 0) = true then
 none
 else (if decide (w6 (w6 (w6 (w6 (0 + ((a :: W).length : Int)) + ((b :: M).length : Int)) + ((((iv E).toNat - (iv A).toNat) : Nat) : Int)) - 0) > 0) = true then
 (if 1 = 1 ∧ 0 ≤ w6 (w6 (w6 (w6 (0 + ((a :: W).length : Int)) + ((b :: M).length : Int)) + ((((iv E).toNat - (iv A).toNat) : Nat) : Int)) - 0) ∧ w6 (w6 (w6 (w6 (0 + ((a :: W).length : Int)) + ((b :: M).length : Int)) + ((((iv E).toNat - (iv A).toNat) : Nat) : Int)) - 0) ≤ 70368744177664 ∧ w6 (w6 (w6 (w6 (0 + ((a :: W).length : Int)) + ((b :: M).length : Int)) + ((((iv E).toNat - (iv A).toNat) : Nat) : Int)) - 0) * 1 ≤ 281474976710656 then
 (if (2 * (0 + (nT (a :: W).length (b :: M).length ((iv E).toNat - (iv A).toNat))) + 200) * 1 ≤ 281474976710656 ∧ some 1 = some 1 ∧ 0 + (nT (a :: W).length (b :: M).length ((iv E).toNat - (iv A).toNat)) ≤ 70368744177664 then
 (if 0 + (a :: W).length * 1 ≤ (bys (a :: W)).length then
 (if (2 * (0 + (a :: W).length) + 200) * 1 ≤ 281474976710656 ∧ some 1 = some 1 ∧ 0 + (a :: W).length ≤ 70368744177664 then
 (if roomOf (nT (a :: W).length (b :: M).length ((iv E).toNat - (iv A).toNat)) 0 0 false 0 false = 0 then
 (if roomOf (nT (a :: W).length (b :: M).length ((iv E).toNat - (iv A).toNat)) 0 0 false 0 false = 0 ∧ 0 = (zrep (nT (a :: W).length (b :: M).length ((iv E).toNat - (iv A).toNat)) [b8 0]).length ∧ (0 < (a :: W).length ∨ 0 = 0) ∧ 1 = 1 ∧ (tk (a :: W)).all AV.isCell = true then
 (if 0 + (b :: M).length * 1 ≤ (bys (b :: M)).length then
 (if (2 * (0 + (a :: W).length + (b :: M).length) + 200) * 1 ≤ 281474976710656 ∧ some 1 = some 1 ∧ 0 + (a :: W).length + (b :: M).length ≤ 70368744177664 then
 (if 0 + (0 + (a :: W).length) * 1 ≤ (tk (a :: W)).length then
 (if 0 = 0 ∧ 0 + (0 + (a :: W).length) * 1 = (tk (a :: W)).length ∧ (0 < (b :: M).length ∨ 0 = 0) ∧ 1 = 1 ∧ (tk (b :: M)).all AV.isCell = true then
 (if 0 + (iv A).toNat * 1 + ((iv E).toNat - (iv A).toNat) * 1 ≤ (bys l).length then
 (if (2 * (0 + (a :: W).length + (b :: M).length + ((iv E).toNat - (iv A).toNat)) + 200) * 1 ≤ 281474976710656 ∧ some 1 = some 1 ∧ 0 + (a :: W).length + (b :: M).length + ((iv E).toNat - (iv A).toNat) ≤ 70368744177664 then
 (if 0 + (0 + (a :: W).length + (b :: M).length) * 1 ≤ (List.take ((0 + (a :: W).length) * 1) (tk (a :: W)) ++ tk (b :: M)).length then
 (if 0 = 0 ∧ 0 + (0 + (a :: W).length + (b :: M).length) * 1 = (List.take ((0 + (a :: W).length) * 1) (tk (a :: W)) ++ tk (b :: M)).length ∧ (0 < (iv E).toNat - (iv A).toNat ∨ 0 = 0) ∧ 1 = 1 ∧ (List.take (((iv E).toNat - (iv A).toNat) * 1) (List.drop (0 + (iv A).toNat * 1) (bys l))).all AV.isCell = true then
 K (AV.tup [AV.sl (some (13, 0)) (0 + (a :: W).length + (b :: M).length + ((iv E).toNat - (iv A).toNat)) 0 false, int i64 0]) ((hInFF6 l M W a b m n A S E p sp dp fl))
 else none) else none) else none) else none) else none) else none) else none) else none) else none)
 else (if (a :: W).length ≤ roomOf (nT (a :: W).length (b :: M).length ((iv E).toNat - (iv A).toNat)) 0 0 false 0 false then
 (if 0 + (tk (a :: W)).length ≤ (zrep (nT (a :: W).length (b :: M).length ((iv E).toNat - (iv A).toNat)) [b8 0]).length ∧ (tk (a :: W)).all AV.isCell = true then
 (if 0 + (b :: M).length * 1 ≤ (bys (b :: M)).length then
 (if (2 * (0 + (a :: W).length + (b :: M).length) + 200) * 1 ≤ 281474976710656 ∧ some 1 = some 1 ∧ 0 + (a :: W).length + (b :: M).length ≤ 70368744177664 then
 (if roomOf (nT (a :: W).length (b :: M).length ((iv E).toNat - (iv A).toNat)) 0 0 false 0 false - (a :: W).length = 0 then
 (if 0 + (0 + (a :: W).length) * 1 ≤ (putCells (zrep (nT (a :: W).length (b :: M).length ((iv E).toNat - (iv A).toNat)) [b8 0]) 0 (tk (a :: W))).length then
 (if roomOf (nT (a :: W).length (b :: M).length ((iv E).toNat - (iv A).toNat)) 0 0 false 0 false - (a :: W).length = 0 ∧ 0 + (0 + (a :: W).length) * 1 = (putCells (zrep (nT (a :: W).length (b :: M).length ((iv E).toNat - (iv A).toNat)) [b8 0]) 0 (tk (a :: W))).length ∧ (0 < (b :: M).length ∨ 0 = 0) ∧ 1 = 1 ∧ (tk (b :: M)).all AV.isCell = true then
 (if 0 + (iv A).toNat * 1 + ((iv E).toNat - (iv A).toNat) * 1 ≤ (bys l).length then
 (if (2 * (0 + (a :: W).length + (b :: M).length + ((iv E).toNat - (iv A).toNat)) + 200) * 1 ≤ 281474976710656 ∧ some 1 = some 1 ∧ 0 + (a :: W).length + (b :: M).length + ((iv E).toNat - (iv A).toNat) ≤ 70368744177664 then
 (if 0 + (0 + (a :: W).length + (b :: M).length) * 1 ≤ (List.take ((0 + (a :: W).length) * 1) (putCells (zrep (nT (a :: W).length (b :: M).length ((iv E).toNat - (iv A).toNat)) [b8 0]) 0 (tk (a :: W))) ++ tk (b :: M)).length then
 (if 0 = 0 ∧ 0 + (0 + (a :: W).length + (b :: M).length) * 1 = (List.take ((0 + (a :: W).length) * 1) (putCells (zrep (nT (a :: W).length (b :: M).length ((iv E).toNat - (iv A).toNat)) [b8 0]) 0 (tk (a :: W))) ++ tk (b :: M)).length ∧ (0 < (iv E).toNat - (iv A).toNat ∨ 0 = 0) ∧ 1 = 1 ∧ (List.take (((iv E).toNat - (iv A).toNat) * 1) (List.drop (0 + (iv A).toNat * 1) (bys l))).all AV.isCell = true then
 K (AV.tup [AV.sl (some (12, 0)) (0 + (a :: W).length + (b :: M).length + ((iv E).toNat - (iv A).toNat)) 0 false, int i64 0]) ((hInFF7 l M W a b m n A S E p sp dp fl))
 else none) else none) else none) else none) else none) else none)
 else (if (b :: M).length ≤ roomOf (nT (a :: W).length (b :: M).length ((iv E).toNat - (iv A).toNat)) 0 0 false 0 false - (a :: W).length then
 (if 0 + (0 + (a :: W).length) * 1 + (tk (b :: M)).length ≤ (putCells (zrep (nT (a :: W).length (b :: M).length ((iv E).toNat - (iv A).toNat)) [b8 0]) 0 (tk (a :: W))).length ∧ (tk (b :: M)).all AV.isCell = true then
 (if 0 + (iv A).toNat * 1 + ((iv E).toNat - (iv A).toNat) * 1 ≤ (bys l).length then
 (if (2 * (0 + (a :: W).length + (b :: M).length + ((iv E).toNat - (iv A).toNat)) + 200) * 1 ≤ 281474976710656 ∧ some 1 = some 1 ∧ 0 + (a :: W).length + (b :: M).length + ((iv E).toNat - (iv A).toNat) ≤ 70368744177664 then
 (if roomOf (nT (a :: W).length (b :: M).length ((iv E).toNat - (iv A).toNat)) 0 0 false 0 false - (a :: W).length - (b :: M).length = 0 then
 (if 0 + (0 + (a :: W).length + (b :: M).length) * 1 ≤ (putCells (putCells (zrep (nT (a :: W).length (b :: M).length ((iv E).toNat - (iv A).toNat)) [b8 0]) 0 (tk (a :: W))) (0 + (0 + (a :: W).length) * 1) (tk (b :: M))).length then
 (if roomOf (nT (a :: W).length (b :: M).length ((iv E).toNat - (iv A).toNat)) 0 0 false 0 false - (a :: W).length - (b :: M).length = 0 ∧ 0 + (0 + (a :: W).length + (b :: M).length) * 1 = (putCells (putCells (zrep (nT (a :: W).length (b :: M).length ((iv E).toNat - (iv A).toNat)) [b8 0]) 0 (tk (a :: W))) (0 + (0 + (a :: W).length) * 1) (tk (b :: M))).length ∧ (0 < (iv E).toNat - (iv A).toNat ∨ 0 = 0) ∧ 1 = 1 ∧ (List.take (((iv E).toNat - (iv A).toNat) * 1) (List.drop (0 + (iv A).toNat * 1) (bys l))).all AV.isCell = true then
 K (AV.tup [AV.sl (some (11, 0)) (0 + (a :: W).length + (b :: M).length + ((iv E).toNat - (iv A).toNat)) 0 false, int i64 0]) ((hInFF8 l M W a b m n A S E p sp dp fl))
 else none) else none)
 else (if (iv E).toNat - (iv A).toNat ≤ roomOf (nT (a :: W).length (b :: M).length ((iv E).toNat - (iv A).toNat)) 0 0 false 0 false - (a :: W).length - (b :: M).length then
 (if (iv E).toNat - (iv A).toNat = 0 then
 K (AV.tup [AV.sl (some (10, 0)) (0 + (a :: W).length + (b :: M).length + ((iv E).toNat - (iv A).toNat)) (roomOf (nT (a :: W).length (b :: M).length ((iv E).toNat - (iv A).toNat)) 0 0 false 0 false - (a :: W).length - (b :: M).length) false, int i64 0]) ((hInFF9 l M W a b m n A S E p sp dp fl))
 else (if 0 + (0 + (a :: W).length + (b :: M).length) * 1 + (List.take (((iv E).toNat - (iv A).toNat) * 1) (List.drop (0 + (iv A).toNat * 1) (bys l))).length ≤ (putCells (putCells (zrep (nT (a :: W).length (b :: M).length ((iv E).toNat - (iv A).toNat)) [b8 0]) 0 (tk (a :: W))) (0 + (0 + (a :: W).length) * 1) (tk (b :: M))).length ∧ (List.take (((iv E).toNat - (iv A).toNat) * 1) (List.drop (0 + (iv A).toNat * 1) (bys l))).all AV.isCell = true then
 K (AV.tup [AV.sl (some (10, 0)) (0 + (a :: W).length + (b :: M).length + ((iv E).toNat - (iv A).toNat)) (roomOf (nT (a :: W).length (b :: M).length ((iv E).toNat - (iv A).toNat)) 0 0 false 0 false - (a :: W).length - (b :: M).length - ((iv E).toNat - (iv A).toNat)) false, int i64 0]) ((hInFF10 l M W a b m n A S E p sp dp fl))
 else none))
 else none))
 else none) else none) else none) else none))
 else none) else none) else none) else none))
 else none) else none) else none) else none)
 else (if 0 + (a :: W).length * 1 ≤ (bys (a :: W)).length then
 (if (2 * (0 + (a :: W).length) + 200) * 1 ≤ 281474976710656 ∧ some 1 = some 1 ∧ 0 + (a :: W).length ≤ 70368744177664 then
 (if 0 + (b :: M).length * 1 ≤ (bys (b :: M)).length then
 (if (2 * ((a :: W).length + (b :: M).length) + 200) * 1 ≤ 281474976710656 ∧ some 1 = some 1 ∧ (a :: W).length + (b :: M).length ≤ 70368744177664 then
 (if 0 + (a :: W).length * 1 ≤ (tk (a :: W)).length then
 (if 0 = 0 ∧ 0 + (a :: W).length * 1 = (tk (a :: W)).length ∧ (0 < (b :: M).length ∨ 0 = 0) ∧ 1 = 1 ∧ (tk (b :: M)).all AV.isCell = true then
 (if 0 + (iv A).toNat * 1 + ((iv E).toNat - (iv A).toNat) * 1 ≤ (bys l).length then
 (if (2 * ((a :: W).length + (b :: M).length + ((iv E).toNat - (iv A).toNat)) + 200) * 1 ≤ 281474976710656 ∧ some 1 = some 1 ∧ (a :: W).length + (b :: M).length + ((iv E).toNat - (iv A).toNat) ≤ 70368744177664 then
 (if 0 + ((a :: W).length + (b :: M).length) * 1 ≤ (List.take ((a :: W).length * 1) (tk (a :: W)) ++ tk (b :: M)).length then
 (if 0 = 0 ∧ 0 + ((a :: W).length + (b :: M).length) * 1 = (List.take ((a :: W).length * 1) (tk (a :: W)) ++ tk (b :: M)).length ∧ (0 < (iv E).toNat - (iv A).toNat ∨ 0 = 0) ∧ 1 = 1 ∧ (List.take (((iv E).toNat - (iv A).toNat) * 1) (List.drop (0 + (iv A).toNat * 1) (bys l))).all AV.isCell = true then
 K (AV.tup [AV.sl (some (12, 0)) ((a :: W).length + (b :: M).length + ((iv E).toNat - (iv A).toNat)) 0 false, int i64 0]) ((hInFF11 l M W a b m n A S E p sp dp fl))
 else none) else none) else none) else none) else none) else none) else none) else none) else none) else none))))))
 else none) else none) else none) else none) else none) else none) := by
  kernel_rfl

noncomputable def hInBFF0 (l : List UInt8) (m n A S E p sp dp fl : Int) : AHeap := [cells (bys l) 1 Md.far none, cells (dAdr false 150) 17 Md.own none, cells (dAdr true 150) 17 Md.own none, cells (dAdr false m) 17 Md.own none]
noncomputable def hInBFF1 (l : List UInt8) (m n A S E p sp dp fl : Int) : AHeap := []
noncomputable def hInBFF2 (l : List UInt8) (m n A S E p sp dp fl : Int) : AHeap := (hInBFF0 l m n A S E p sp dp fl) ++ [cells (viewOf false A S E p (kSrc false n) (kDst false) sp dp fl) 42 Md.own none, cells (dAdr false m) 17 Md.own none, cells (dAdr false 150) 17 Md.own none]
theorem nfInBFF {R : Type} (l : List UInt8) (m n A S E p sp dp fl : Int) (K : AV → AHeap → Option R) :
 qrun Try.prog (tIn (.tup [.agg (viewOf false A S E p (kSrc false n) (kDst false) sp dp fl), .int .i64 0]) .nilFn .nilFn [] []) 100 5 [(24, .bool false), (61, .bool true)] [] 11 [slB 0 l, .agg (dAdr false 150), .agg (dAdr true 150), .agg (dAdr false m)] [farB l] K =
 (if cdec (Says eFrR [AV.sl (some (0, 0)) l.length 0 false] (hInBFF0 l m n A S E p sp dp fl) (AV.tup [AV.agg (viewOf false A S E p (kSrc false n) (kDst false) sp dp fl), int i64 0]) (hInBFF1 l m n A S E p sp dp fl)) = true then
 (if 0 ≤ iv E ∧ iv E ≤ (((capOf l.length 0 false) : Nat) : Int) then
 (if 0 ≤ iv A ∧ iv A ≤ iv E then
 (if decide (w6 (w6 (iv A + 20) + ((((iv E).toNat - (iv A).toNat) : Nat) : Int)) > 65535) = true then
 K (AV.tup [AV.sl none 0 0 true, int i64 9]) ((hInBFF2 l m n A S E p sp dp fl))
 else none) else none) else none) else none) := by
  kernel_rfl

noncomputable def hInFT0 (l M W : List UInt8) (a b : UInt8) (m n A S E p sp dp fl : Int) : AHeap := ((hInFF0 l M W a b m n A S E p sp dp fl).set 3 (cells (dAdr true m) 17 Md.own none))
noncomputable def hInFT1 (l M W : List UInt8) (a b : UInt8) (m n A S E p sp dp fl : Int) : AHeap := []
noncomputable def hInFT2 (l M W : List UInt8) (a b : UInt8) (m n A S E p sp dp fl : Int) : AHeap := (((hInFT0 l M W a b m n A S E p sp dp fl).set 1 (cells (dAdr true 150) 17 Md.own none))) ++ [cells (viewOf false A S E p (kSrc false n) (kDst false) sp dp fl) 42 Md.own none, cells (dAdr true m) 17 Md.own none, cells (dAdr true 150) 17 Md.own none]
noncomputable def hInFT3 (l M W : List UInt8) (a b : UInt8) (m n A S E p sp dp fl : Int) : AHeap := [cells (bys (b :: M)) 1 Md.own none]
noncomputable def hInFT4 (l M W : List UInt8) (a b : UInt8) (m n A S E p sp dp fl : Int) : AHeap := (hInFT2 l M W a b m n A S E p sp dp fl) ++ [cells (bys (b :: M)) 1 Md.own none]
noncomputable def hInFT5 (l M W : List UInt8) (a b : UInt8) (m n A S E p sp dp fl : Int) : AHeap := [cells (bys (a :: W)) 1 Md.own none]
noncomputable def hInFT6 (l M W : List UInt8) (a b : UInt8) (m n A S E p sp dp fl : Int) : AHeap := (hInFT4 l M W a b m n A S E p sp dp fl) ++ [cells (bys (a :: W)) 1 Md.own none, cells [AV.sl (some (8, 0)) (a :: W).length 0 false, AV.sl (some (7, 0)) (b :: M).length 0 false, AV.sl (some (0, 0 + (iv A).toNat * 1)) ((iv E).toNat - (iv A).toNat) (roomOf l.length 0 (iv A).toNat (some (iv E)).isNone (iv E).toNat false) false] 1 Md.own none, ABlk.dead, ABlk.dead, cells (List.take ((0 + (a :: W).length) * 1) (tk (a :: W)) ++ tk (b :: M)) 1 Md.ro none, cells (List.take ((0 + (a :: W).length + (b :: M).length) * 1) (List.take ((0 + (a :: W).length) * 1) (tk (a :: W)) ++ tk (b :: M)) ++ List.take (((iv E).toNat - (iv A).toNat) * 1) (List.drop (0 + (iv A).toNat * 1) (bys l))) 1 Md.own (some 12)]
noncomputable def hInFT7 (l M W : List UInt8) (a b : UInt8) (m n A S E p sp dp fl : Int) : AHeap := (hInFT6 l M W a b m n A S E p sp dp fl).take 11 ++ [cells (List.take ((0 + (a :: W).length) * 1) (putCells (zrep (nT (a :: W).length (b :: M).length ((iv E).toNat - (iv A).toNat)) [b8 0]) 0 (tk (a :: W))) ++ tk (b :: M)) 1 Md.ro none, cells (List.take ((0 + (a :: W).length + (b :: M).length) * 1) (List.take ((0 + (a :: W).length) * 1) (putCells (zrep (nT (a :: W).length (b :: M).length ((iv E).toNat - (iv A).toNat)) [b8 0]) 0 (tk (a :: W))) ++ tk (b :: M)) ++ List.take (((iv E).toNat - (iv A).toNat) * 1) (List.drop (0 + (iv A).toNat * 1) (bys l))) 1 Md.own (some 11)]
noncomputable def hInFT8 (l M W : List UInt8) (a b : UInt8) (m n A S E p sp dp fl : Int) : AHeap := (hInFT6 l M W a b m n A S E p sp dp fl).take 10 ++ [cells (putCells (putCells (zrep (nT (a :: W).length (b :: M).length ((iv E).toNat - (iv A).toNat)) [b8 0]) 0 (tk (a :: W))) (0 + (0 + (a :: W).length) * 1) (tk (b :: M))) 1 Md.ro none, cells (List.take ((0 + (a :: W).length + (b :: M).length) * 1) (putCells (putCells (zrep (nT (a :: W).length (b :: M).length ((iv E).toNat - (iv A).toNat)) [b8 0]) 0 (tk (a :: W))) (0 + (0 + (a :: W).length) * 1) (tk (b :: M))) ++ List.take (((iv E).toNat - (iv A).toNat) * 1) (List.drop (0 + (iv A).toNat * 1) (bys l))) 1 Md.own (some 10)]
noncomputable def hInFT9 (l M W : List UInt8) (a b : UInt8) (m n A S E p sp dp fl : Int) : AHeap := (hInFT6 l M W a b m n A S E p sp dp fl).take 10 ++ [cells (putCells (putCells (zrep (nT (a :: W).length (b :: M).length ((iv E).toNat - (iv A).toNat)) [b8 0]) 0 (tk (a :: W))) (0 + (0 + (a :: W).length) * 1) (tk (b :: M))) 1 Md.own none]
noncomputable def hInFT10 (l M W : List UInt8) (a b : UInt8) (m n A S E p sp dp fl : Int) : AHeap := ((hInFT9 l M W a b m n A S E p sp dp fl).set 10 (cells (putCells (putCells (putCells (zrep (nT (a :: W).length (b :: M).length ((iv E).toNat - (iv A).toNat)) [b8 0]) 0 (tk (a :: W))) (0 + (0 + (a :: W).length) * 1) (tk (b :: M))) (0 + (0 + (a :: W).length + (b :: M).length) * 1) (List.take (((iv E).toNat - (iv A).toNat) * 1) (List.drop (0 + (iv A).toNat * 1) (bys l)))) 1 Md.own none))
noncomputable def hInFT11 (l M W : List UInt8) (a b : UInt8) (m n A S E p sp dp fl : Int) : AHeap := (hInFT6 l M W a b m n A S E p sp dp fl).take 11 ++ [cells (List.take ((a :: W).length * 1) (tk (a :: W)) ++ tk (b :: M)) 1 Md.ro none, cells (List.take (((a :: W).length + (b :: M).length) * 1) (List.take ((a :: W).length * 1) (tk (a :: W)) ++ tk (b :: M)) ++ List.take (((iv E).toNat - (iv A).toNat) * 1) (List.drop (0 + (iv A).toNat * 1) (bys l))) 1 Md.own (some 11)]
theorem nfInFT {R : Type} (l M W : List UInt8) (a b : UInt8) (m n A S E p sp dp fl : Int) (K : AV → AHeap → Option R) :
 qrun Try.prog (tIn (.tup [.agg (viewOf false A S E p (kSrc false n) (kDst false) sp dp fl), .int .i64 0]) .nilFn .nilFn (b :: M) (a :: W)) 100 5 [(24, .bool false), (61, .bool false)] [] 11 [slB 0 l, .agg (dAdr false 150), .agg (dAdr true 150), .agg (dAdr true m)] [farB l] K =
 (if cdec (Says eFrR [AV.sl (some (0, 0)) l.length 0 false] (hInFT0 l M W a b m n A S E p sp dp fl) (AV.tup [AV.agg (viewOf false A S E p (kSrc false n) (kDst false) sp dp fl), int i64 0]) (hInFT1 l M W a b m n A S E p sp dp fl)) = true then
 (if 0 ≤ iv E ∧ iv E ≤ (((capOf l.length 0 false) : Nat) : Int) then
 (if 0 ≤ iv A ∧ iv A ≤ iv E then
 (if decide (w6 (w6 (iv A + 40) + ((((iv E).toNat - (iv A).toNat) : Nat) : Int)) > 65535) = false then
 (if cdec (Says eMk6 [AV.agg (dAdr true 150), AV.agg (dAdr true m), b8 4, int i64 ((((iv E).toNat - (iv A).toNat) : Nat) : Int)] (hInFT2 l M W a b m n A S E p sp dp fl) (AV.tup [AV.sl (some (7, 0)) (b :: M).length 0 false, AV.bool true]) (hInFT3 l M W a b m n A S E p sp dp fl)) = true then
 (if cdec (Says eWith [AV.sl (some (0, 0)) l.length 0 false, int u16 34525] (hInFT4 l M W a b m n A S E p sp dp fl) (AV.sl (some (8, 0)) (a :: W).length 0 false) (hInFT5 l M W a b m n A S E p sp dp fl)) = true then
 (if decide (w6 (0 + ((a :: W).length : Int)) < 0) = true then
 none
 else (if decide (w6 (w6 (0 + ((a :: W).length : Int)) + ((b :: M).length : Int)) < 0) = true then
 none
 else (if decide (w6 (w6 (w6 (0 + ((a :: W).length : Int)) + ((b :: M).length : Int)) + ((((iv E).toNat - (iv A).toNat) : Nat) : Int)) < 0) = true then
 none
 else (if decide (w6 (w6 (w6 (0 + ((a :: W).length : Int)) + ((b :: M).length : Int)) + ((((iv E).toNat - (iv A).toNat) : Nat) : Int)) < 0) = true then
 none
 else (if decide (w6 (w6 (w6 (w6 (0 + ((a :: W).length : Int)) + ((b :: M).length : Int)) + ((((iv E).toNat - (iv A).toNat) : Nat) : Int)) - 0) > 0) = true then
 (if 1 = 1 ∧ 0 ≤ w6 (w6 (w6 (w6 (0 + ((a :: W).length : Int)) + ((b :: M).length : Int)) + ((((iv E).toNat - (iv A).toNat) : Nat) : Int)) - 0) ∧ w6 (w6 (w6 (w6 (0 + ((a :: W).length : Int)) + ((b :: M).length : Int)) + ((((iv E).toNat - (iv A).toNat) : Nat) : Int)) - 0) ≤ 70368744177664 ∧ w6 (w6 (w6 (w6 (0 + ((a :: W).length : Int)) + ((b :: M).length : Int)) + ((((iv E).toNat - (iv A).toNat) : Nat) : Int)) - 0) * 1 ≤ 281474976710656 then
 (if (2 * (0 + (nT (a :: W).length (b :: M).length ((iv E).toNat - (iv A).toNat))) + 200) * 1 ≤ 281474976710656 ∧ some 1 = some 1 ∧ 0 + (nT (a :: W).length (b :: M).length ((iv E).toNat - (iv A).toNat)) ≤ 70368744177664 then
 (if 0 + (a :: W).length * 1 ≤ (bys (a :: W)).length then
 (if (2 * (0 + (a :: W).length) + 200) * 1 ≤ 281474976710656 ∧ some 1 = some 1 ∧ 0 + (a :: W).length ≤ 70368744177664 then
 (if roomOf (nT (a :: W).length (b :: M).length ((iv E).toNat - (iv A).toNat)) 0 0 false 0 false = 0 then
 (if roomOf (nT (a :: W).length (b :: M).length ((iv E).toNat - (iv A).toNat)) 0 0 false 0 false = 0 ∧ 0 = (zrep (nT (a :: W).length (b :: M).length ((iv E).toNat - (iv A).toNat)) [b8 0]).length ∧ (0 < (a :: W).length ∨ 0 = 0) ∧ 1 = 1 ∧ (tk (a :: W)).all AV.isCell = true then
 (if 0 + (b :: M).length * 1 ≤ (bys (b :: M)).length then
 (if (2 * (0 + (a :: W).length + (b :: M).length) + 200) * 1 ≤ 281474976710656 ∧ some 1 = some 1 ∧ 0 + (a :: W).length + (b :: M).length ≤ 70368744177664 then
 (if 0 + (0 + (a :: W).length) * 1 ≤ (tk (a :: W)).length then
 (if 0 = 0 ∧ 0 + (0 + (a :: W).length) * 1 = (tk (a :: W)).length ∧ (0 < (b :: M).length ∨ 0 = 0) ∧ 1 = 1 ∧ (tk (b :: M)).all AV.isCell = true then
 (if 0 + (iv A).toNat * 1 + ((iv E).toNat - (iv A).toNat) * 1 ≤ (bys l).length then
 (if (2 * (0 + (a :: W).length + (b :: M).length + ((iv E).toNat - (iv A).toNat)) + 200) * 1 ≤ 281474976710656 ∧ some 1 = some 1 ∧ 0 + (a :: W).length + (b :: M).length + ((iv E).toNat - (iv A).toNat) ≤ 70368744177664 then
 (if 0 + (0 + (a :: W).length + (b :: M).length) * 1 ≤ (List.take ((0 + (a :: W).length) * 1) (tk (a :: W)) ++ tk (b :: M)).length then
 (if 0 = 0 ∧ 0 + (0 + (a :: W).length + (b :: M).length) * 1 = (List.take ((0 + (a :: W).length) * 1) (tk (a :: W)) ++ tk (b :: M)).length ∧ (0 < (iv E).toNat - (iv A).toNat ∨ 0 = 0) ∧ 1 = 1 ∧ (List.take (((iv E).toNat - (iv A).toNat) * 1) (List.drop (0 + (iv A).toNat * 1) (bys l))).all AV.isCell = true then
 K (AV.tup [AV.sl (some (13, 0)) (0 + (a :: W).length + (b :: M).length + ((iv E).toNat - (iv A).toNat)) 0 false, int i64 0]) ((hInFT6 l M W a b m n A S E p sp dp fl))
 else none) else none) else none) else none) else none) else none) else none) else none) else none)
 else (if (a :: W).length ≤ roomOf (nT (a :: W).length (b :: M).length ((iv E).toNat - (iv A).toNat)) 0 0 false 0 false then
 (if 0 + (tk (a :: W)).length ≤ (zrep (nT (a :: W).length (b :: M).length ((iv E).toNat - (iv A).toNat)) [b8 0]).length ∧ (tk (a :: W)).all AV.isCell = true then
 (if 0 + (b :: M).length * 1 ≤ (bys (b :: M)).length then
 (if (2 * (0 + (a :: W).length + (b :: M).length) + 200) * 1 ≤ 281474976710656 ∧ some 1 = some 1 ∧ 0 + (a :: W).length + (b :: M).length ≤ 70368744177664 then
 (if roomOf (nT (a :: W).length (b :: M).length ((iv E).toNat - (iv A).toNat)) 0 0 false 0 false - (a :: W).length = 0 then
 (if 0 + (0 + (a :: W).length) * 1 ≤ (putCells (zrep (nT (a :: W).length (b :: M).length ((iv E).toNat - (iv A).toNat)) [b8 0]) 0 (tk (a :: W))).length then
 (if roomOf (nT (a :: W).length (b :: M).length ((iv E).toNat - (iv A).toNat)) 0 0 false 0 false - (a :: W).length = 0 ∧ 0 + (0 + (a :: W).length) * 1 = (putCells (zrep (nT (a :: W).length (b :: M).length ((iv E).toNat - (iv A).toNat)) [b8 0]) 0 (tk (a :: W))).length ∧ (0 < (b :: M).length ∨ 0 = 0) ∧ 1 = 1 ∧ (tk (b :: M)).all AV.isCell = true then
 (if 0 + (iv A).toNat * 1 + ((iv E).toNat - (iv A).toNat) * 1 ≤ (bys l).length then
 (if (2 * (0 + (a :: W).length + (b :: M).length + ((iv E).toNat - (iv A).toNat)) + 200) * 1 ≤ 281474976710656 ∧ some 1 = some 1 ∧ 0 + (a :: W).length + (b :: M).length + ((iv E).toNat - (iv A).toNat) ≤ 70368744177664 then
 (if 0 + (0 + (a :: W).length + (b :: M).length) * 1 ≤ (List.take ((0 + (a :: W).length) * 1) (putCells (zrep (nT (a :: W).length (b :: M).length ((iv E).toNat - (iv A).toNat)) [b8 0]) 0 (tk (a :: W))) ++ tk (b :: M)).length then
 (if 0 = 0 ∧ 0 + (0 + (a :: W).length + (b :: M).length) * 1 = (List.take ((0 + (a :: W).length) * 1) (putCells (zrep (nT (a :: W).length (b :: M).length ((iv E).toNat - (iv A).toNat)) [b8 0]) 0 (tk (a :: W))) ++ tk (b :: M)).length ∧ (0 < (iv E).toNat - (iv A).toNat ∨ 0 = 0) ∧ 1 = 1 ∧ (List.take (((iv E).toNat - (iv A).toNat) * 1) (List.drop (0 + (iv A).toNat * 1) (bys l))).all AV.isCell = true then
 K (AV.tup [AV.sl (some (12, 0)) (0 + (a :: W).length + (b :: M).length + ((iv E).toNat - (iv A).toNat)) 0 false, int i64 0]) ((hInFT7 l M W a b m n A S E p sp dp fl))
 else none) else none) else none) else none) else none) else none)
 else (if (b :: M).length ≤ roomOf (nT (a :: W).length (b :: M).length ((iv E).toNat - (iv A).toNat)) 0 0 false 0 false - (a :: W).length then
 (if 0 + (0 + (a :: W).length) * 1 + (tk (b :: M)).length ≤ (putCells (zrep (nT (a :: W).length (b :: M).length ((iv E).toNat - (iv A).toNat)) [b8 0]) 0 (tk (a :: W))).length ∧ (tk (b :: M)).all AV.isCell = true then
 (if 0 + (iv A).toNat * 1 + ((iv E).toNat - (iv A).toNat) * 1 ≤ (bys l).length then
 (if (2 * (0 + (a :: W).length + (b :: M).length + ((iv E).toNat - (iv A).toNat)) + 200) * 1 ≤ 281474976710656 ∧ some 1 = some 1 ∧ 0 + (a :: W).length + (b :: M).length + ((iv E).toNat - (iv A).toNat) ≤ 70368744177664 then
 (if roomOf (nT (a :: W).length (b :: M).length ((iv E).toNat - (iv A).toNat)) 0 0 false 0 false - (a :: W).length - (b :: M).length = 0 then
 (if 0 + (0 + (a :: W).length + (b :: M).length) * 1 ≤ (putCells (putCells (zrep (nT (a :: W).length (b :: M).length ((iv E).toNat - (iv A).toNat)) [b8 0]) 0 (tk (a :: W))) (0 + (0 + (a :: W).length) * 1) (tk (b :: M))).length then
 (if roomOf (nT (a :: W).length (b :: M).length ((iv E).toNat - (iv A).toNat)) 0 0 false 0 false - (a :: W).length - (b :: M).length = 0 ∧ 0 + (0 + (a :: W).length + (b :: M).length) * 1 = (putCells (putCells (zrep (nT (a :: W).length (b :: M).length ((iv E).toNat - (iv A).toNat)) [b8 0]) 0 (tk (a :: W))) (0 + (0 + (a :: W).length) * 1) (tk (b :: M))).length ∧ (0 < (iv E).toNat - (iv A).toNat ∨ 0 = 0) ∧ 1 = 1 ∧ (List.take (((iv E).toNat - (iv A).toNat) * 1) (List.drop (0 + (iv A).toNat * 1) (bys l))).all AV.isCell = true then
 K (AV.tup [AV.sl (some (11, 0)) (0 + (a :: W).length + (b :: M).length + ((iv E).toNat - (iv A).toNat)) 0 false, int i64 0]) ((hInFT8 l M W a b m n A S E p sp dp fl))
 else none) else none)
 else (if (iv E).toNat - (iv A).toNat ≤ roomOf (nT (a :: W).length (b :: M).length ((iv E).toNat - (iv A).toNat)) 0 0 false 0 false - (a :: W).length - (b :: M).length then
 (if (iv E).toNat - (iv A).toNat = 0 then
 K (AV.tup [AV.sl (some (10, 0)) (0 + (a :: W).length + (b :: M).length + ((iv E).toNat - (iv A).toNat)) (roomOf (nT (a :: W).length (b :: M).length ((iv E).toNat - (iv A).toNat)) 0 0 false 0 false - (a :: W).length - (b :: M).length) false, int i64 0]) ((hInFT9 l M W a b m n A S E p sp dp fl))
 else (if 0 + (0 + (a :: W).length + (b :: M).length) * 1 + (List.take (((iv E).toNat - (iv A).toNat) * 1) (List.drop (0 + (iv A).toNat * 1) (bys l))).length ≤ (putCells (putCells (zrep (nT (a :: W).length (b :: M).length ((iv E).toNat - (iv A).toNat)) [b8 0]) 0 (tk (a :: W))) (0 + (0 + (a :: W).length) * 1) (tk (b :: M))).length ∧ (List.take (((iv E).toNat - (iv A).toNat) * 1) (List.drop (0 + (iv A).toNat * 1) (bys l))).all AV.isCell = true then
 K (AV.tup [AV.sl (some (10, 0)) (0 + (a :: W).length + (b :: M).length + ((iv E).toNat - (iv A).toNat)) (roomOf (nT (a :: W).length (b :: M).length ((iv E).toNat - (iv A).toNat)) 0 0 false 0 false - (a :: W).length - (b :: M).length - ((iv E).toNat - (iv A).toNat)) false, int i64 0]) ((hInFT10 l M W a b m n A S E p sp dp fl))
 else none))
 else none))
 else none) else none) else none) else none))
 else none) else none) else none) else none))
 else none) else none) else none) else none)
 else (if 0 + (a :: W).length * 1 ≤ (bys (a :: W)).length then
 (if (2 * (0 + (a :: W).length) + 200) * 1 ≤ 281474976710656 ∧ some 1 = some 1 ∧ 0 + (a :: W).length ≤ 70368744177664 then
 (if 0 + (b :: M).length * 1 ≤ (bys (b :: M)).length then
 (if (2 * ((a :: W).length + (b :: M).length) + 200) * 1 ≤ 281474976710656 ∧ some 1 = some 1 ∧ (a :: W).length + (b :: M).length ≤ 70368744177664 then
 (if 0 + (a :: W).length * 1 ≤ (tk (a :: W)).length then
 (if 0 = 0 ∧ 0 + (a :: W).length * 1 = (tk (a :: W)).length ∧ (0 < (b :: M).length ∨ 0 = 0) ∧ 1 = 1 ∧ (tk (b :: M)).all AV.isCell = true then
 (if 0 + (iv A).toNat * 1 + ((iv E).toNat - (iv A).toNat) * 1 ≤ (bys l).length then
 (if (2 * ((a :: W).length + (b :: M).length + ((iv E).toNat - (iv A).toNat)) + 200) * 1 ≤ 281474976710656 ∧ some 1 = some 1 ∧ (a :: W).length + (b :: M).length + ((iv E).toNat - (iv A).toNat) ≤ 70368744177664 then
 (if 0 + ((a :: W).length + (b :: M).length) * 1 ≤ (List.take ((a :: W).length * 1) (tk (a :: W)) ++ tk (b :: M)).length then
 (if 0 = 0 ∧ 0 + ((a :: W).length + (b :: M).length) * 1 = (List.take ((a :: W).length * 1) (tk (a :: W)) ++ tk (b :: M)).length ∧ (0 < (iv E).toNat - (iv A).toNat ∨ 0 = 0) ∧ 1 = 1 ∧ (List.take (((iv E).toNat - (iv A).toNat) * 1) (List.drop (0 + (iv A).toNat * 1) (bys l))).all AV.isCell = true then
 K (AV.tup [AV.sl (some (12, 0)) ((a :: W).length + (b :: M).length + ((iv E).toNat - (iv A).toNat)) 0 false, int i64 0]) ((hInFT11 l M W a b m n A S E p sp dp fl))
 else none) else none) else none) else none) else none) else none) else none) else none) else none) else none))))))
 else none) else none) else none) else none) else none) else none) := by
  kernel_rfl

noncomputable def hInBFT0 (l : List UInt8) (m n A S E p sp dp fl : Int) : AHeap := ((hInBFF0 l m n A S E p sp dp fl).set 3 (cells (dAdr true m) 17 Md.own none))
noncomputable def hInBFT1 (l : List UInt8) (m n A S E p sp dp fl : Int) : AHeap := []
noncomputable def hInBFT2 (l : List UInt8) (m n A S E p sp dp fl : Int) : AHeap := (((hInBFT0 l m n A S E p sp dp fl).set 1 (cells (dAdr true 150) 17 Md.own none))) ++ [cells (viewOf false A S E p (kSrc false n) (kDst false) sp dp fl) 42 Md.own none, cells (dAdr true m) 17 Md.own none, cells (dAdr true 150) 17 Md.own none]
theorem nfInBFT {R : Type} (l : List UInt8) (m n A S E p sp dp fl : Int) (K : AV → AHeap → Option R) :
 qrun Try.prog (tIn (.tup [.agg (viewOf false A S E p (kSrc false n) (kDst false) sp dp fl), .int .i64 0]) .nilFn .nilFn [] []) 100 5 [(24, .bool false), (61, .bool true)] [] 11 [slB 0 l, .agg (dAdr false 150), .agg (dAdr true 150), .agg (dAdr true m)] [farB l] K =
 (if cdec (Says eFrR [AV.sl (some (0, 0)) l.length 0 false] (hInBFT0 l m n A S E p sp dp fl) (AV.tup [AV.agg (viewOf false A S E p (kSrc false n) (kDst false) sp dp fl), int i64 0]) (hInBFT1 l m n A S E p sp dp fl)) = true then
 (if 0 ≤ iv E ∧ iv E ≤ (((capOf l.length 0 false) : Nat) : Int) then
 (if 0 ≤ iv A ∧ iv A ≤ iv E then
 (if decide (w6 (w6 (iv A + 40) + ((((iv E).toNat - (iv A).toNat) : Nat) : Int)) > 65535) = true then
 K (AV.tup [AV.sl none 0 0 true, int i64 9]) ((hInBFT2 l m n A S E p sp dp fl))
 else none) else none) else none) else none) := by
  kernel_rfl

noncomputable def hInTF0 (l M W : List UInt8) (a b : UInt8) (m n A S E p sp dp fl : Int) : AHeap := (hInFF0 l M W a b m n A S E p sp dp fl)
noncomputable def hInTF1 (l M W : List UInt8) (a b : UInt8) (m n A S E p sp dp fl : Int) : AHeap := []
noncomputable def hInTF2 (l M W : List UInt8) (a b : UInt8) (m n A S E p sp dp fl : Int) : AHeap := ((hInFF2 l M W a b m n A S E p sp dp fl).set 4 (cells (viewOf true A S E p (kSrc true n) (kDst true) sp dp fl) 42 Md.own none))
noncomputable def hInTF3 (l M W : List UInt8) (a b : UInt8) (m n A S E p sp dp fl : Int) : AHeap := [cells (bys (b :: M)) 1 Md.own none]
noncomputable def hInTF4 (l M W : List UInt8) (a b : UInt8) (m n A S E p sp dp fl : Int) : AHeap := (hInTF2 l M W a b m n A S E p sp dp fl) ++ [cells (bys (b :: M)) 1 Md.own none]
noncomputable def hInTF5 (l M W : List UInt8) (a b : UInt8) (m n A S E p sp dp fl : Int) : AHeap := [cells (bys (a :: W)) 1 Md.own none]
noncomputable def hInTF6 (l M W : List UInt8) (a b : UInt8) (m n A S E p sp dp fl : Int) : AHeap := ((hInFF6 l M W a b m n A S E p sp dp fl).set 4 (cells (viewOf true A S E p (kSrc true n) (kDst true) sp dp fl) 42 Md.own none))
noncomputable def hInTF7 (l M W : List UInt8) (a b : UInt8) (m n A S E p sp dp fl : Int) : AHeap := ((hInFF7 l M W a b m n A S E p sp dp fl).set 4 (cells (viewOf true A S E p (kSrc true n) (kDst true) sp dp fl) 42 Md.own none))
noncomputable def hInTF8 (l M W : List UInt8) (a b : UInt8) (m n A S E p sp dp fl : Int) : AHeap := ((hInFF8 l M W a b m n A S E p sp dp fl).set 4 (cells (viewOf true A S E p (kSrc true n) (kDst true) sp dp fl) 42 Md.own none))
noncomputable def hInTF9 (l M W : List UInt8) (a b : UInt8) (m n A S E p sp dp fl : Int) : AHeap := ((hInFF9 l M W a b m n A S E p sp dp fl).set 4 (cells (viewOf true A S E p (kSrc true n) (kDst true) sp dp fl) 42 Md.own none))
noncomputable def hInTF10 (l M W : List UInt8) (a b : UInt8) (m n A S E p sp dp fl : Int) : AHeap := ((hInFF10 l M W a b m n A S E p sp dp fl).set 4 (cells (viewOf true A S E p (kSrc true n) (kDst true) sp dp fl) 42 Md.own none))
noncomputable def hInTF11 (l M W : List UInt8) (a b : UInt8) (m n A S E p sp dp fl : Int) : AHeap := ((hInFF11 l M W a b m n A S E p sp dp fl).set 4 (cells (viewOf true A S E p (kSrc true n) (kDst true) sp dp fl) 42 Md.own none))
theorem nfInTF {R : Type} (l M W : List UInt8) (a b : UInt8) (m n A S E p sp dp fl : Int) (K : AV → AHeap → Option R) :
 qrun Try.prog (tIn (.tup [.agg (viewOf true A S E p (kSrc true n) (kDst true) sp dp fl), .int .i64 0]) .nilFn .nilFn (b :: M) (a :: W)) 100 5 [(24, .bool false), (61, .bool false)] [] 11 [slB 0 l, .agg (dAdr false 150), .agg (dAdr true 150), .agg (dAdr false m)] [farB l] K =
 (if cdec (Says eFrR [AV.sl (some (0, 0)) l.length 0 false] (hInTF0 l M W a b m n A S E p sp dp fl) (AV.tup [AV.agg (viewOf true A S E p (kSrc true n) (kDst true) sp dp fl), int i64 0]) (hInTF1 l M W a b m n A S E p sp dp fl)) = true then
 (if 0 ≤ iv E ∧ iv E ≤ (((capOf l.length 0 false) : Nat) : Int) then
 (if 0 ≤ iv A ∧ iv A ≤ iv E then
 (if decide (w6 (w6 (iv A + 20) + ((((iv E).toNat - (iv A).toNat) : Nat) : Int)) > 65535) = false then
 (if cdec (Says eMk4 [AV.agg (dAdr false 150), AV.agg (dAdr false m), b8 41, int i64 ((((iv E).toNat - (iv A).toNat) : Nat) : Int)] (hInTF2 l M W a b m n A S E p sp dp fl) (AV.tup [AV.sl (some (7, 0)) (b :: M).length 0 false, AV.bool true]) (hInTF3 l M W a b m n A S E p sp dp fl)) = true then
 (if cdec (Says eWith [AV.sl (some (0, 0)) l.length 0 false, int u16 2048] (hInTF4 l M W a b m n A S E p sp dp fl) (AV.sl (some (8, 0)) (a :: W).length 0 false) (hInTF5 l M W a b m n A S E p sp dp fl)) = true then
 (if decide (w6 (0 + ((a :: W).length : Int)) < 0) = true then
 none
 else (if decide (w6 (w6 (0 + ((a :: W).length : Int)) + ((b :: M).length : Int)) < 0) = true then
 none
 else (if decide (w6 (w6 (w6 (0 + ((a :: W).length : Int)) + ((b :: M).length : Int)) + ((((iv E).toNat - (iv A).toNat) : Nat) : Int)) < 0) = true then
 none
 else (if decide (w6 (w6 (w6 (0 + ((a :: W).length : Int)) + ((b :: M).length : Int)) + ((((iv E).toNat - (iv A).toNat) : Nat) : Int)) < 0) = true then
 none
 else (if decide (w6 (w6 (w6 (w6 (0 + ((a :: W).length : Int)) + ((b :: M).length : Int)) + ((((iv E).toNat - (iv A).toNat) : Nat) : Int)) - 0) > 0) = true then
 (if 1 = 1 ∧ 0 ≤ w6 (w6 (w6 (w6 (0 + ((a :: W).length : Int)) + ((b :: M).length : Int)) + ((((iv E).toNat - (iv A).toNat) : Nat) : Int)) - 0) ∧ w6 (w6 (w6 (w6 (0 + ((a :: W).length : Int)) + ((b :: M).length : Int)) + ((((iv E).toNat - (iv A).toNat) : Nat) : Int)) - 0) ≤ 70368744177664 ∧ w6 (w6 (w6 (w6 (0 + ((a :: W).length : Int)) + ((b :: M).length : Int)) + ((((iv E).toNat - (iv A).toNat) : Nat) : Int)) - 0) * 1 ≤ 281474976710656 then
 (if (2 * (0 + (nT (a :: W).length (b :: M).length ((iv E).toNat - (iv A).toNat))) + 200) * 1 ≤ 281474976710656 ∧ some 1 = some 1 ∧ 0 + (nT (a :: W).length (b :: M).length ((iv E).toNat - (iv A).toNat)) ≤ 70368744177664 then
 (if 0 + (a :: W).length * 1 ≤ (bys (a :: W)).length then
 (if (2 * (0 + (a :: W).length) + 200) * 1 ≤ 281474976710656 ∧ some 1 = some 1 ∧ 0 + (a :: W).length ≤ 70368744177664 then
 (if roomOf (nT (a :: W).length (b :: M).length ((iv E).toNat - (iv A).toNat)) 0 0 false 0 false = 0 then
 (if roomOf (nT (a :: W).length (b :: M).length ((iv E).toNat - (iv A).toNat)) 0 0 false 0 false = 0 ∧ 0 = (zrep (nT (a :: W).length (b :: M).length ((iv E).toNat - (iv A).toNat)) [b8 0]).length ∧ (0 < (a :: W).length ∨ 0 = 0) ∧ 1 = 1 ∧ (tk (a :: W)).all AV.isCell = true then
 (if 0 + (b :: M).length * 1 ≤ (bys (b :: M)).length then
 (if (2 * (0 + (a :: W).length + (b :: M).length) + 200) * 1 ≤ 281474976710656 ∧ some 1 = some 1 ∧ 0 + (a :: W).length + (b :: M).length ≤ 70368744177664 then
 (if 0 + (0 + (a :: W).length) * 1 ≤ (tk (a :: W)).length then
 (if 0 = 0 ∧ 0 + (0 + (a :: W).length) * 1 = (tk (a :: W)).length ∧ (0 < (b :: M).length ∨ 0 = 0) ∧ 1 = 1 ∧ (tk (b :: M)).all AV.isCell = true then
 (if 0 + (iv A).toNat * 1 + ((iv E).toNat - (iv A).toNat) * 1 ≤ (bys l).length then
 (if (2 * (0 + (a :: W).length + (b :: M).length + ((iv E).toNat - (iv A).toNat)) + 200) * 1 ≤ 281474976710656 ∧ some 1 = some 1 ∧ 0 + (a :: W).length + (b :: M).length + ((iv E).toNat - (iv A).toNat) ≤ 70368744177664 then
 (if 0 + (0 + (a :: W).length + (b :: M).length) * 1 ≤ (List.take ((0 + (a :: W).length) * 1) (tk (a :: W)) ++ tk (b :: M)).length then
 (if 0 = 0 ∧ 0 + (0 + (a :: W).length + (b :: M).length) * 1 = (List.take ((0 + (a :: W).length) * 1) (tk (a :: W)) ++ tk (b :: M)).length ∧ (0 < (iv E).toNat - (iv A).toNat ∨ 0 = 0) ∧ 1 = 1 ∧ (List.take (((iv E).toNat - (iv A).toNat) * 1) (List.drop (0 + (iv A).toNat * 1) (bys l))).all AV.isCell = true then
 K (AV.tup [AV.sl (some (13, 0)) (0 + (a :: W).length + (b :: M).length + ((iv E).toNat - (iv A).toNat)) 0 false, int i64 0]) ((hInTF6 l M W a b m n A S E p sp dp fl))
 else none) else none) else none) else none) else none) else none) else none) else none) else none)
 else (if (a :: W).length ≤ roomOf (nT (a :: W).length (b :: M).length ((iv E).toNat - (iv A).toNat)) 0 0 false 0 false then
 (if 0 + (tk (a :: W)).length ≤ (zrep (nT (a :: W).length (b :: M).length ((iv E).toNat - (iv A).toNat)) [b8 0]).length ∧ (tk (a :: W)).all AV.isCell = true then
 (if 0 + (b :: M).length * 1 ≤ (bys (b :: M)).length then
 (if (2 * (0 + (a :: W).length + (b :: M).length) + 200) * 1 ≤ 281474976710656 ∧ some 1 = some 1 ∧ 0 + (a :: W).length + (b :: M).length ≤ 70368744177664 then
 (if roomOf (nT (a :: W).length (b :: M).length ((iv E).toNat - (iv A).toNat)) 0 0 false 0 false - (a :: W).length = 0 then
 (if 0 + (0 + (a :: W).length) * 1 ≤ (putCells (zrep (nT (a :: W).length (b :: M).length ((iv E).toNat - (iv A).toNat)) [b8 0]) 0 (tk (a :: W))).length then
 (if roomOf (nT (a :: W).length (b :: M).length ((iv E).toNat - (iv A).toNat)) 0 0 false 0 false - (a :: W).length = 0 ∧ 0 + (0 + (a :: W).length) * 1 = (putCells (zrep (nT (a :: W).length (b :: M).length ((iv E).toNat - (iv A).toNat)) [b8 0]) 0 (tk (a :: W))).length ∧ (0 < (b :: M).length ∨ 0 = 0) ∧ 1 = 1 ∧ (tk (b :: M)).all AV.isCell = true then
 (if 0 + (iv A).toNat * 1 + ((iv E).toNat - (iv A).toNat) * 1 ≤ (bys l).length then
 (if (2 * (0 + (a :: W).length + (b :: M).length + ((iv E).toNat - (iv A).toNat)) + 200) * 1 ≤ 281474976710656 ∧ some 1 = some 1 ∧ 0 + (a :: W).length + (b :: M).length + ((iv E).toNat - (iv A).toNat) ≤ 70368744177664 then
 (if 0 + (0 + (a :: W).length + (b :: M).length) * 1 ≤ (List.take ((0 + (a :: W).length) * 1) (putCells (zrep (nT (a :: W).length (b :: M).length ((iv E).toNat - (iv A).toNat)) [b8 0]) 0 (tk (a :: W))) ++ tk (b :: M)).length then
 (if 0 = 0 ∧ 0 + (0 + (a :: W).length + (b :: M).length) * 1 = (List.take ((0 + (a :: W).length) * 1) (putCells (zrep (nT (a :: W).length (b :: M).length ((iv E).toNat - (iv A).toNat)) [b8 0]) 0 (tk (a :: W))) ++ tk (b :: M)).length ∧ (0 < (iv E).toNat - (iv A).toNat ∨ 0 = 0) ∧ 1 = 1 ∧ (List.take (((iv E).toNat - (iv A).toNat) * 1) (List.drop (0 + (iv A).toNat * 1) (bys l))).all AV.isCell = true then
 K (AV.tup [AV.sl (some (12, 0)) (0 + (a :: W).length + (b :: M).length + ((iv E).toNat - (iv A).toNat)) 0 false, int i64 0]) ((hInTF7 l M W a b m n A S E p sp dp fl))
 else none) else none) else none) else none) else none) else none)
 else (if (b :: M).length ≤ roomOf (nT (a :: W).length (b :: M).length ((iv E).toNat - (iv A).toNat)) 0 0 false 0 false - (a :: W).length then
 (if 0 + (0 + (a :: W).length) * 1 + (tk (b :: M)).length ≤ (putCells (zrep (nT (a :: W).length (b :: M).length ((iv E).toNat - (iv A).toNat)) [b8 0]) 0 (tk (a :: W))).length ∧ (tk (b :: M)).all AV.isCell = true then
 (if 0 + (iv A).toNat * 1 + ((iv E).toNat - (iv A).toNat) * 1 ≤ (bys l).length then
 (if (2 * (0 + (a :: W).length + (b :: M).length + ((iv E).toNat - (iv A).toNat)) + 200) * 1 ≤ 281474976710656 ∧ some 1 = some 1 ∧ 0 + (a :: W).length + (b :: M).length + ((iv E).toNat - (iv A).toNat) ≤ 70368744177664 then
 (if roomOf (nT (a :: W).length (b :: M).length ((iv E).toNat - (iv A).toNat)) 0 0 false 0 false - (a :: W).length - (b :: M).length = 0 then
 (if 0 + (0 + (a :: W).length + (b :: M).length) * 1 ≤ (putCells (putCells (zrep (nT (a :: W).length (b :: M).length ((iv E).toNat - (iv A).toNat)) [b8 0]) 0 (tk (a :: W))) (0 + (0 + (a :: W).length) * 1) (tk (b :: M))).length then
 (if roomOf (nT (a :: W).length (b :: M).length ((iv E).toNat - (iv A).toNat)) 0 0 false 0 false - (a :: W).length - (b :: M).length = 0 ∧ 0 + (0 + (a :: W).length + (b :: M).length) * 1 = (putCells (putCells (zrep (nT (a :: W).length (b :: M).length ((iv E).toNat - (iv A).toNat)) [b8 0]) 0 (tk (a :: W))) (0 + (0 + (a :: W).length) * 1) (tk (b :: M))).length ∧ (0 < (iv E).toNat - (iv A).toNat ∨ 0 = 0) ∧ 1 = 1 ∧ (List.take (((iv E).toNat - (iv A).toNat) * 1) (List.drop (0 + (iv A).toNat * 1) (bys l))).all AV.isCell = true then
 K (AV.tup [AV.sl (some (11, 0)) (0 + (a :: W).length + (b :: M).length + ((iv E).toNat - (iv A).toNat)) 0 false, int i64 0]) ((hInTF8 l M W a b m n A S E p sp dp fl))
 else none) else none)
 else (if (iv E).toNat - (iv A).toNat ≤ roomOf (nT (a :: W).length (b :: M).length ((iv E).toNat - (iv A).toNat)) 0 0 false 0 false - (a :: W).length - (b :: M).length then
 (if (iv E).toNat - (iv A).toNat = 0 then
 K (AV.tup [AV.sl (some (10, 0)) (0 + (a :: W).length + (b :: M).length + ((iv E).toNat - (iv A).toNat)) (roomOf (nT (a :: W).length (b :: M).length ((iv E).toNat - (iv A).toNat)) 0 0 false 0 false - (a :: W).length - (b :: M).length) false, int i64 0]) ((hInTF9 l M W a b m n A S E p sp dp fl))
 else (if 0 + (0 + (a :: W).length + (b :: M).length) * 1 + (List.take (((iv E).toNat - (iv A).toNat) * 1) (List.drop (0 + (iv A).toNat * 1) (bys l))).length ≤ (putCells (putCells (zrep (nT (a :: W).length (b :: M).length ((iv E).toNat - (iv A).toNat)) [b8 0]) 0 (tk (a :: W))) (0 + (0 + (a :: W).length) * 1) (tk (b :: M))).length ∧ (List.take (((iv E).toNat - (iv A).toNat) * 1) (List.drop (0 + (iv A).toNat * 1) (bys l))).all AV.isCell = true then
 K (AV.tup [AV.sl (some (10, 0)) (0 + (a :: W).length + (b :: M).length + ((iv E).toNat - (iv A).toNat)) (roomOf (nT (a :: W).length (b :: M).length ((iv E).toNat - (iv A).toNat)) 0 0 false 0 false - (a :: W).length - (b :: M).length - ((iv E).toNat - (iv A).toNat)) false, int i64 0]) ((hInTF10 l M W a b m n A S E p sp dp fl))
 else none))
 else none))
 else none) else none) else none) else none))
 else none) else none) else none) else none))
 else none) else none) else none) else none)
 else (if 0 + (a :: W).length * 1 ≤ (bys (a :: W)).length then
 (if (2 * (0 + (a :: W).length) + 200) * 1 ≤ 281474976710656 ∧ some 1 = some 1 ∧ 0 + (a :: W).length ≤ 70368744177664 then
 (if 0 + (b :: M).length * 1 ≤ (bys (b :: M)).length then
 (if (2 * ((a :: W).length + (b :: M).length) + 200) * 1 ≤ 281474976710656 ∧ some 1 = some 1 ∧ (a :: W).length + (b :: M).length ≤ 70368744177664 then
 (if 0 + (a :: W).length * 1 ≤ (tk (a :: W)).length then
 (if 0 = 0 ∧ 0 + (a :: W).length * 1 = (tk (a :: W)).length ∧ (0 < (b :: M).length ∨ 0 = 0) ∧ 1 = 1 ∧ (tk (b :: M)).all AV.isCell = true then
 (if 0 + (iv A).toNat * 1 + ((iv E).toNat - (iv A).toNat) * 1 ≤ (bys l).length then
 (if (2 * ((a :: W).length + (b :: M).length + ((iv E).toNat - (iv A).toNat)) + 200) * 1 ≤ 281474976710656 ∧ some 1 = some 1 ∧ (a :: W).length + (b :: M).length + ((iv E).toNat - (iv A).toNat) ≤ 70368744177664 then
 (if 0 + ((a :: W).length + (b :: M).length) * 1 ≤ (List.take ((a :: W).length * 1) (tk (a :: W)) ++ tk (b :: M)).length then
 (if 0 = 0 ∧ 0 + ((a :: W).length + (b :: M).length) * 1 = (List.take ((a :: W).length * 1) (tk (a :: W)) ++ tk (b :: M)).length ∧ (0 < (iv E).toNat - (iv A).toNat ∨ 0 = 0) ∧ 1 = 1 ∧ (List.take (((iv E).toNat - (iv A).toNat) * 1) (List.drop (0 + (iv A).toNat * 1) (bys l))).all AV.isCell = true then
 K (AV.tup [AV.sl (some (12, 0)) ((a :: W).length + (b :: M).length + ((iv E).toNat - (iv A).toNat)) 0 false, int i64 0]) ((hInTF11 l M W a b m n A S E p sp dp fl))
 else none) else none) else none) else none) else none) else none) else none) else none) else none) else none))))))
 else none) else none) else none) else none) else none) else none) := by
  kernel_rfl

noncomputable def hInBTF0 (l : List UInt8) (m n A S E p sp dp fl : Int) : AHeap := (hInBFF0 l m n A S E p sp dp fl)
noncomputable def hInBTF1 (l : List UInt8) (m n A S E p sp dp fl : Int) : AHeap := []
noncomputable def hInBTF2 (l : List UInt8) (m n A S E p sp dp fl : Int) : AHeap := ((hInBFF2 l m n A S E p sp dp fl).set 4 (cells (viewOf true A S E p (kSrc true n) (kDst true) sp dp fl) 42 Md.own none))
theorem nfInBTF {R : Type} (l : List UInt8) (m n A S E p sp dp fl : Int) (K : AV → AHeap → Option R) :
 qrun Try.prog (tIn (.tup [.agg (viewOf true A S E p (kSrc true n) (kDst true) sp dp fl), .int .i64 0]) .nilFn .nilFn [] []) 100 5 [(24, .bool false), (61, .bool true)] [] 11 [slB 0 l, .agg (dAdr false 150), .agg (dAdr true 150), .agg (dAdr false m)] [farB l] K =
 (if cdec (Says eFrR [AV.sl (some (0, 0)) l.length 0 false] (hInBTF0 l m n A S E p sp dp fl) (AV.tup [AV.agg (viewOf true A S E p (kSrc true n) (kDst true) sp dp fl), int i64 0]) (hInBTF1 l m n A S E p sp dp fl)) = true then
 (if 0 ≤ iv E ∧ iv E ≤ (((capOf l.length 0 false) : Nat) : Int) then
 (if 0 ≤ iv A ∧ iv A ≤ iv E then
 (if decide (w6 (w6 (iv A + 20) + ((((iv E).toNat - (iv A).toNat) : Nat) : Int)) > 65535) = true then
 K (AV.tup [AV.sl none 0 0 true, int i64 9]) ((hInBTF2 l m n A S E p sp dp fl))
 else none) else none) else none) else none) := by
  kernel_rfl

noncomputable def hInTT0 (l M W : List UInt8) (a b : UInt8) (m n A S E p sp dp fl : Int) : AHeap := (hInFT0 l M W a b m n A S E p sp dp fl)
noncomputable def hInTT1 (l M W : List UInt8) (a b : UInt8) (m n A S E p sp dp fl : Int) : AHeap := []
noncomputable def hInTT2 (l M W : List UInt8) (a b : UInt8) (m n A S E p sp dp fl : Int) : AHeap := ((hInFT2 l M W a b m n A S E p sp dp fl).set 4 (cells (viewOf true A S E p (kSrc true n) (kDst true) sp dp fl) 42 Md.own none))
noncomputable def hInTT3 (l M W : List UInt8) (a b : UInt8) (m n A S E p sp dp fl : Int) : AHeap := [cells (bys (b :: M)) 1 Md.own none]
noncomputable def hInTT4 (l M W : List UInt8) (a b : UInt8) (m n A S E p sp dp fl : Int) : AHeap := (hInTT2 l M W a b m n A S E p sp dp fl) ++ [cells (bys (b :: M)) 1 Md.own none]
noncomputable def hInTT5 (l M W : List UInt8) (a b : UInt8) (m n A S E p sp dp fl : Int) : AHeap := [cells (bys (a :: W)) 1 Md.own none]
noncomputable def hInTT6 (l M W : List UInt8) (a b : UInt8) (m n A S E p sp dp fl : Int) : AHeap := ((hInFT6 l M W a b m n A S E p sp dp fl).set 4 (cells (viewOf true A S E p (kSrc true n) (kDst true) sp dp fl) 42 Md.own none))
noncomputable def hInTT7 (l M W : List UInt8) (a b : UInt8) (m n A S E p sp dp fl : Int) : AHeap := ((hInFT7 l M W a b m n A S E p sp dp fl).set 4 (cells (viewOf true A S E p (kSrc true n) (kDst true) sp dp fl) 42 Md.own none))
noncomputable def hInTT8 (l M W : List UInt8) (a b : UInt8) (m n A S E p sp dp fl : Int) : AHeap := ((hInFT8 l M W a b m n A S E p sp dp fl).set 4 (cells (viewOf true A S E p (kSrc true n) (kDst true) sp dp fl) 42 Md.own none))
noncomputable def hInTT9 (l M W : List UInt8) (a b : UInt8) (m n A S E p sp dp fl : Int) : AHeap := ((hInFT9 l M W a b m n A S E p sp dp fl).set 4 (cells (viewOf true A S E p (kSrc true n) (kDst true) sp dp fl) 42 Md.own none))
noncomputable def hInTT10 (l M W : List UInt8) (a b : UInt8) (m n A S E p sp dp fl : Int) : AHeap := ((hInFT10 l M W a b m n A S E p sp dp fl).set 4 (cells (viewOf true A S E p (kSrc true n) (kDst true) sp dp fl) 42 Md.own none))
noncomputable def hInTT11 (l M W : List UInt8) (a b : UInt8) (m n A S E p sp dp fl : Int) : AHeap := ((hInFT11 l M W a b m n A S E p sp dp fl).set 4 (cells (viewOf true A S E p (kSrc true n) (kDst true) sp dp fl) 42 Md.own none))
theorem nfInTT {R : Type} (l M W : List UInt8) (a b : UInt8) (m n A S E p sp dp fl : Int) (K : AV → AHeap → Option R) :
 qrun Try.prog (tIn (.tup [.agg (viewOf true A S E p (kSrc true n) (kDst true) sp dp fl), .int .i64 0]) .nilFn .nilFn (b :: M) (a :: W)) 100 5 [(24, .bool false), (61, .bool false)] [] 11 [slB 0 l, .agg (dAdr false 150), .agg (dAdr true 150), .agg (dAdr true m)] [farB l] K =
 (if cdec (Says eFrR [AV.sl (some (0, 0)) l.length 0 false] (hInTT0 l M W a b m n A S E p sp dp fl) (AV.tup [AV.agg (viewOf true A S E p (kSrc true n) (kDst true) sp dp fl), int i64 0]) (hInTT1 l M W a b m n A S E p sp dp fl)) = true then
 (if 0 ≤ iv E ∧ iv E ≤ (((capOf l.length 0 false) : Nat) : Int) then
 (if 0 ≤ iv A ∧ iv A ≤ iv E then
 (if decide (w6 (w6 (iv A + 40) + ((((iv E).toNat - (iv A).toNat) : Nat) : Int)) > 65535) = false then
 (if cdec (Says eMk6 [AV.agg (dAdr true 150), AV.agg (dAdr true m), b8 41, int i64 ((((iv E).toNat - (iv A).toNat) : Nat) : Int)] (hInTT2 l M W a b m n A S E p sp dp fl) (AV.tup [AV.sl (some (7, 0)) (b :: M).length 0 false, AV.bool true]) (hInTT3 l M W a b m n A S E p sp dp fl)) = true then
 (if cdec (Says eWith [AV.sl (some (0, 0)) l.length 0 false, int u16 34525] (hInTT4 l M W a b m n A S E p sp dp fl) (AV.sl (some (8, 0)) (a :: W).length 0 false) (hInTT5 l M W a b m n A S E p sp dp fl)) = true then
 (if decide (w6 (0 + ((a :: W).length : Int)) < 0) = true then
 none
 else (if decide (w6 (w6 (0 + ((a :: W).length : Int)) + ((b :: M).length : Int)) < 0) = true then
 none
 else (if decide (w6 (w6 (w6 (0 + ((a :: W).length : Int)) + ((b :: M).length : Int)) + ((((iv E).toNat - (iv A).toNat) : Nat) : Int)) < 0) = true then
 none
 else (if decide (w6 (w6 (w6 (0 + ((a :: W).length : Int)) + ((b :: M).length : Int)) + ((((iv E).toNat - (iv A).toNat) : Nat) : Int)) < 0) = true then
 none
 else (if decide (w6 (w6 (w6 (w6 (0 + ((a :: W).length : Int)) + ((b :: M).length : Int)) + ((((iv E).toNat - (iv A).toNat) : Nat) : Int)) - 0) > 0) = true then
 (if 1 = 1 ∧ 0 ≤ w6 (w6 (w6 (w6 (0 + ((a :: W).length : Int)) + ((b :: M).length : Int)) + ((((iv E).toNat - (iv A).toNat) : Nat) : Int)) - 0) ∧ w6 (w6 (w6 (w6 (0 + ((a :: W).length : Int)) + ((b :: M).length : Int)) + ((((iv E).toNat - (iv A).toNat) : Nat) : Int)) - 0) ≤ 70368744177664 ∧ w6 (w6 (w6 (w6 (0 + ((a :: W).length : Int)) + ((b :: M).length : Int)) + ((((iv E).toNat - (iv A).toNat) : Nat) : Int)) - 0) * 1 ≤ 281474976710656 then
 (if (2 * (0 + (nT (a :: W).length (b :: M).length ((iv E).toNat - (iv A).toNat))) + 200) * 1 ≤ 281474976710656 ∧ some 1 = some 1 ∧ 0 + (nT (a :: W).length (b :: M).length ((iv E).toNat - (iv A).toNat)) ≤ 70368744177664 then
 (if 0 + (a :: W).length * 1 ≤ (bys (a :: W)).length then
 (if (2 * (0 + (a :: W).length) + 200) * 1 ≤ 281474976710656 ∧ some 1 = some 1 ∧ 0 + (a :: W).length ≤ 70368744177664 then
 (if roomOf (nT (a :: W).length (b :: M).length ((iv E).toNat - (iv A).toNat)) 0 0 false 0 false = 0 then
 (if roomOf (nT (a :: W).length (b :: M).length ((iv E).toNat - (iv A).toNat)) 0 0 false 0 false = 0 ∧ 0 = (zrep (nT (a :: W).length (b :: M).length ((iv E).toNat - (iv A).toNat)) [b8 0]).length ∧ (0 < (a :: W).length ∨ 0 = 0) ∧ 1 = 1 ∧ (tk (a :: W)).all AV.isCell = true then
 (if 0 + (b :: M).length * 1 ≤ (bys (b :: M)).length then
 (if (2 * (0 + (a :: W).length + (b :: M).length) + 200) * 1 ≤ 281474976710656 ∧ some 1 = some 1 ∧ 0 + (a :: W).length + (b :: M).length ≤ 70368744177664 then
 (if 0 + (0 + (a :: W).length) * 1 ≤ (tk (a :: W)).length then
 (if 0 = 0 ∧ 0 + (0 + (a :: W).length) * 1 = (tk (a :: W)).length ∧ (0 < (b :: M).length ∨ 0 = 0) ∧ 1 = 1 ∧ (tk (b :: M)).all AV.isCell = true then
 (if 0 + (iv A).toNat * 1 + ((iv E).toNat - (iv A).toNat) * 1 ≤ (bys l).length then
 (if (2 * (0 + (a :: W).length + (b :: M).length + ((iv E).toNat - (iv A).toNat)) + 200) * 1 ≤ 281474976710656 ∧ some 1 = some 1 ∧ 0 + (a :: W).length + (b :: M).length + ((iv E).toNat - (iv A).toNat) ≤ 70368744177664 then
 (if 0 + (0 + (a :: W).length + (b :: M).length) * 1 ≤ (List.take ((0 + (a :: W).length) * 1) (tk (a :: W)) ++ tk (b :: M)).length then
 (if 0 = 0 ∧ 0 + (0 + (a :: W).length + (b :: M).length) * 1 = (List.take ((0 + (a :: W).length) * 1) (tk (a :: W)) ++ tk (b :: M)).length ∧ (0 < (iv E).toNat - (iv A).toNat ∨ 0 = 0) ∧ 1 = 1 ∧ (List.take (((iv E).toNat - (iv A).toNat) * 1) (List.drop (0 + (iv A).toNat * 1) (bys l))).all AV.isCell = true then
 K (AV.tup [AV.sl (some (13, 0)) (0 + (a :: W).length + (b :: M).length + ((iv E).toNat - (iv A).toNat)) 0 false, int i64 0]) ((hInTT6 l M W a b m n A S E p sp dp fl))
 else none) else none) else none) else none) else none) else none) else none) else none) else none)
 else (if (a :: W).length ≤ roomOf (nT (a :: W).length (b :: M).length ((iv E).toNat - (iv A).toNat)) 0 0 false 0 false then
 (if 0 + (tk (a :: W)).length ≤ (zrep (nT (a :: W).length (b :: M).length ((iv E).toNat - (iv A).toNat)) [b8 0]).length ∧ (tk (a :: W)).all AV.isCell = true then
 (if 0 + (b :: M).length * 1 ≤ (bys (b :: M)).length then
 (if (2 * (0 + (a :: W).length + (b :: M).length) + 200) * 1 ≤ 281474976710656 ∧ some 1 = some 1 ∧ 0 + (a :: W).length + (b :: M).length ≤ 70368744177664 then
 (if roomOf (nT (a :: W).length (b :: M).length ((iv E).toNat - (iv A).toNat)) 0 0 false 0 false - (a :: W).length = 0 then
 (if 0 + (0 + (a :: W).length) * 1 ≤ (putCells (zrep (nT (a :: W).length (b :: M).length ((iv E).toNat - (iv A).toNat)) [b8 0]) 0 (tk (a :: W))).length then
 (if roomOf (nT (a :: W).length (b :: M).length ((iv E).toNat - (iv A).toNat)) 0 0 false 0 false - (a :: W).length = 0 ∧ 0 + (0 + (a :: W).length) * 1 = (putCells (zrep (nT (a :: W).length (b :: M).length ((iv E).toNat - (iv A).toNat)) [b8 0]) 0 (tk (a :: W))).length ∧ (0 < (b :: M).length ∨ 0 = 0) ∧ 1 = 1 ∧ (tk (b :: M)).all AV.isCell = true then
 (if 0 + (iv A).toNat * 1 + ((iv E).toNat - (iv A).toNat) * 1 ≤ (bys l).length then
 (if (2 * (0 + (a :: W).length + (b :: M).length + ((iv E).toNat - (iv A).toNat)) + 200) * 1 ≤ 281474976710656 ∧ some 1 = some 1 ∧ 0 + (a :: W).length + (b :: M).length + ((iv E).toNat - (iv A).toNat) ≤ 70368744177664 then
 (if 0 + (0 + (a :: W).length + (b :: M).length) * 1 ≤ (List.take ((0 + (a :: W).length) * 1) (putCells (zrep (nT (a :: W).length (b :: M).length ((iv E).toNat - (iv A).toNat)) [b8 0]) 0 (tk (a :: W))) ++ tk (b :: M)).length then
 (if 0 = 0 ∧ 0 + (0 + (a :: W).length + (b :: M).length) * 1 = (List.take ((0 + (a :: W).length) * 1) (putCells (zrep (nT (a :: W).length (b :: M).length ((iv E).toNat - (iv A).toNat)) [b8 0]) 0 (tk (a :: W))) ++ tk (b :: M)).length ∧ (0 < (iv E).toNat - (iv A).toNat ∨ 0 = 0) ∧ 1 = 1 ∧ (List.take (((iv E).toNat - (iv A).toNat) * 1) (List.drop (0 + (iv A).toNat * 1) (bys l))).all AV.isCell = true then
 K (AV.tup [AV.sl (some (12, 0)) (0 + (a :: W).length + (b :: M).length + ((iv E).toNat - (iv A).toNat)) 0 false, int i64 0]) ((hInTT7 l M W a b m n A S E p sp dp fl))
 else none) else none) else none) else none) else none) else none)
 else (if (b :: M).length ≤ roomOf (nT (a :: W).length (b :: M).length ((iv E).toNat - (iv A).toNat)) 0 0 false 0 false - (a :: W).length then
 (if 0 + (0 + (a :: W).length) * 1 + (tk (b :: M)).length ≤ (putCells (zrep (nT (a :: W).length (b :: M).length ((iv E).toNat - (iv A).toNat)) [b8 0]) 0 (tk (a :: W))).length ∧ (tk (b :: M)).all AV.isCell = true then
 (if 0 + (iv A).toNat * 1 + ((iv E).toNat - (iv A).toNat) * 1 ≤ (bys l).length then
 (if (2 * (0 + (a :: W).length + (b :: M).length + ((iv E).toNat - (iv A).toNat)) + 200) * 1 ≤ 281474976710656 ∧ some 1 = some 1 ∧ 0 + (a :: W).length + (b :: M).length + ((iv E).toNat - (iv A).toNat) ≤ 70368744177664 then
 (if roomOf (nT (a :: W).length (b :: M).length ((iv E).toNat - (iv A).toNat)) 0 0 false 0 false - (a :: W).length - (b :: M).length = 0 then
 (if 0 + (0 + (a :: W).length + (b :: M).length) * 1 ≤ (putCells (putCells (zrep (nT (a :: W).length (b :: M).length ((iv E).toNat - (iv A).toNat)) [b8 0]) 0 (tk (a :: W))) (0 + (0 + (a :: W).length) * 1) (tk (b :: M))).length then
 (if roomOf (nT (a :: W).length (b :: M).length ((iv E).toNat - (iv A).toNat)) 0 0 false 0 false - (a :: W).length - (b :: M).length = 0 ∧ 0 + (0 + (a :: W).length + (b :: M).length) * 1 = (putCells (putCells (zrep (nT (a :: W).length (b :: M).length ((iv E).toNat - (iv A).toNat)) [b8 0]) 0 (tk (a :: W))) (0 + (0 + (a :: W).length) * 1) (tk (b :: M))).length ∧ (0 < (iv E).toNat - (iv A).toNat ∨ 0 = 0) ∧ 1 = 1 ∧ (List.take (((iv E).toNat - (iv A).toNat) * 1) (List.drop (0 + (iv A).toNat * 1) (bys l))).all AV.isCell = true then
 K (AV.tup [AV.sl (some (11, 0)) (0 + (a :: W).length + (b :: M).length + ((iv E).toNat - (iv A).toNat)) 0 false, int i64 0]) ((hInTT8 l M W a b m n A S E p sp dp fl))
 else none) else none)
 else (if (iv E).toNat - (iv A).toNat ≤ roomOf (nT (a :: W).length (b :: M).length ((iv E).toNat - (iv A).toNat)) 0 0 false 0 false - (a :: W).length - (b :: M).length then
 (if (iv E).toNat - (iv A).toNat = 0 then
 K (AV.tup [AV.sl (some (10, 0)) (0 + (a :: W).length + (b :: M).length + ((iv E).toNat - (iv A).toNat)) (roomOf (nT (a :: W).length (b :: M).length ((iv E).toNat - (iv A).toNat)) 0 0 false 0 false - (a :: W).length - (b :: M).length) false, int i64 0]) ((hInTT9 l M W a b m n A S E p sp dp fl))
 else (if 0 + (0 + (a :: W).length + (b :: M).length) * 1 + (List.take (((iv E).toNat - (iv A).toNat) * 1) (List.drop (0 + (iv A).toNat * 1) (bys l))).length ≤ (putCells (putCells (zrep (nT (a :: W).length (b :: M).length ((iv E).toNat - (iv A).toNat)) [b8 0]) 0 (tk (a :: W))) (0 + (0 + (a :: W).length) * 1) (tk (b :: M))).length ∧ (List.take (((iv E).toNat - (iv A).toNat) * 1) (List.drop (0 + (iv A).toNat * 1) (bys l))).all AV.isCell = true then
 K (AV.tup [AV.sl (some (10, 0)) (0 + (a :: W).length + (b :: M).length + ((iv E).toNat - (iv A).toNat)) (roomOf (nT (a :: W).length (b :: M).length ((iv E).toNat - (iv A).toNat)) 0 0 false 0 false - (a :: W).length - (b :: M).length - ((iv E).toNat - (iv A).toNat)) false, int i64 0]) ((hInTT10 l M W a b m n A S E p sp dp fl))
 else none))
 else none))
 else none) else none) else none) else none))
 else none) else none) else none) else none))
 else none) else none) else none) else none)
 else (if 0 + (a :: W).length * 1 ≤ (bys (a :: W)).length then
 (if (2 * (0 + (a :: W).length) + 200) * 1 ≤ 281474976710656 ∧ some 1 = some 1 ∧ 0 + (a :: W).length ≤ 70368744177664 then
 (if 0 + (b :: M).length * 1 ≤ (bys (b :: M)).length then
 (if (2 * ((a :: W).length + (b :: M).length) + 200) * 1 ≤ 281474976710656 ∧ some 1 = some 1 ∧ (a :: W).length + (b :: M).length ≤ 70368744177664 then
 (if 0 + (a :: W).length * 1 ≤ (tk (a :: W)).length then
 (if 0 = 0 ∧ 0 + (a :: W).length * 1 = (tk (a :: W)).length ∧ (0 < (b :: M).length ∨ 0 = 0) ∧ 1 = 1 ∧ (tk (b :: M)).all AV.isCell = true then
 (if 0 + (iv A).toNat * 1 + ((iv E).toNat - (iv A).toNat) * 1 ≤ (bys l).length then
 (if (2 * ((a :: W).length + (b :: M).length + ((iv E).toNat - (iv A).toNat)) + 200) * 1 ≤ 281474976710656 ∧ some 1 = some 1 ∧ (a :: W).length + (b :: M).length + ((iv E).toNat - (iv A).toNat) ≤ 70368744177664 then
 (if 0 + ((a :: W).length + (b :: M).length) * 1 ≤ (List.take ((a :: W).length * 1) (tk (a :: W)) ++ tk (b :: M)).length then
 (if 0 = 0 ∧ 0 + ((a :: W).length + (b :: M).length) * 1 = (List.take ((a :: W).length * 1) (tk (a :: W)) ++ tk (b :: M)).length ∧ (0 < (iv E).toNat - (iv A).toNat ∨ 0 = 0) ∧ 1 = 1 ∧ (List.take (((iv E).toNat - (iv A).toNat) * 1) (List.drop (0 + (iv A).toNat * 1) (bys l))).all AV.isCell = true then
 K (AV.tup [AV.sl (some (12, 0)) ((a :: W).length + (b :: M).length + ((iv E).toNat - (iv A).toNat)) 0 false, int i64 0]) ((hInTT11 l M W a b m n A S E p sp dp fl))
 else none) else none) else none) else none) else none) else none) else none) else none) else none) else none))))))
 else none) else none) else none) else none) else none) else none) := by
  kernel_rfl

noncomputable def hInBTT0 (l : List UInt8) (m n A S E p sp dp fl : Int) : AHeap := (hInBFT0 l m n A S E p sp dp fl)
noncomputable def hInBTT1 (l : List UInt8) (m n A S E p sp dp fl : Int) : AHeap := []
noncomputable def hInBTT2 (l : List UInt8) (m n A S E p sp dp fl : Int) : AHeap := ((hInBFT2 l m n A S E p sp dp fl).set 4 (cells (viewOf true A S E p (kSrc true n) (kDst true) sp dp fl) 42 Md.own none))
theorem nfInBTT {R : Type} (l : List UInt8) (m n A S E p sp dp fl : Int) (K : AV → AHeap → Option R) :
 qrun Try.prog (tIn (.tup [.agg (viewOf true A S E p (kSrc true n) (kDst true) sp dp fl), .int .i64 0]) .nilFn .nilFn [] []) 100 5 [(24, .bool false), (61, .bool true)] [] 11 [slB 0 l, .agg (dAdr false 150), .agg (dAdr true 150), .agg (dAdr true m)] [farB l] K =
 (if cdec (Says eFrR [AV.sl (some (0, 0)) l.length 0 false] (hInBTT0 l m n A S E p sp dp fl) (AV.tup [AV.agg (viewOf true A S E p (kSrc true n) (kDst true) sp dp fl), int i64 0]) (hInBTT1 l m n A S E p sp dp fl)) = true then
 (if 0 ≤ iv E ∧ iv E ≤ (((capOf l.length 0 false) : Nat) : Int) then
 (if 0 ≤ iv A ∧ iv A ≤ iv E then
 (if decide (w6 (w6 (iv A + 40) + ((((iv E).toNat - (iv A).toNat) : Nat) : Int)) > 65535) = true then
 K (AV.tup [AV.sl none 0 0 true, int i64 9]) ((hInBTT2 l m n A S E p sp dp fl))
 else none) else none) else none) else none) := by
  kernel_rfl

noncomputable def hInN0 (l : List UInt8) (d6 : Bool) (m r : Int) : AHeap := [cells (bys l) 1 Md.far none, cells (dAdr false 150) 17 Md.own none, cells (dAdr true 150) 17 Md.own none, cells [AV.bool d6, b8 172, b8 16, b8 0, b8 (db3 m), b8 0, b8 0, b8 0, b8 0, b8 0, b8 0, b8 0, b8 0, b8 0, b8 0, b8 0, b8 0] 17 Md.own none]
noncomputable def hInN1 (l : List UInt8) (d6 : Bool) (m r : Int) : AHeap := []
noncomputable def hInN2 (l : List UInt8) (d6 : Bool) (m r : Int) : AHeap := (hInN0 l d6 m r) ++ [cells [AV.bool false, int i64 0, int i64 0, int i64 0, b8 0, AV.bool false, b8 0, b8 0, b8 0, b8 0, b8 0, b8 0, b8 0, b8 0, b8 0, b8 0, b8 0, b8 0, b8 0, b8 0, b8 0, b8 0, AV.bool false, b8 0, b8 0, b8 0, b8 0, b8 0, b8 0, b8 0, b8 0, b8 0, b8 0, b8 0, b8 0, b8 0, b8 0, b8 0, b8 0, int u16 0, int u16 0, b8 0] 42 Md.own none]
theorem nfInN {R : Type} (l : List UInt8) (d6 : Bool) (m r : Int) (K : AV → AHeap → Option R) :
 qrun Try.prog (tIn (.tup [.agg view0, .int .i64 r]) .nilFn .nilFn [] []) 100 5 [(24, .bool true)] [] 11 [slB 0 l, .agg (dAdr false 150), .agg (dAdr true 150), .agg (dAdr d6 m)] [farB l] K =
 (if cdec (Says eFrR [AV.sl (some (0, 0)) l.length 0 false] (hInN0 l d6 m r) (AV.tup [AV.agg view0, int i64 r]) (hInN1 l d6 m r)) = true then
 (if (r != 0) = true then
 K (AV.tup [AV.sl none 0 0 true, int i64 r]) ((hInN2 l d6 m r))
 else none) else none) := by
  kernel_rfl


end Go.Proofs.Ytjkkhbeidhpghaa.L
