/- encap.Out of what was put in: what the kernel makes of it. -/
import Derived.Test.YtjkkhbeidhpghaaEncIn
import Derived.Test.YtjkkhbeidhpghaaEqualK
import Derived.Test.YtjkkhbeidhpghaaAddrB
set_option autoImplicit false
set_option maxRecDepth 100000
set_option linter.unusedVariables false
set_option linter.unusedSimpArgs false
namespace Go.Proofs.Ytjkkhbeidhpghaa.L
open Go Go.Abs
open Go.IntKind
open Go.Abs.AV (int)
open Go.Abs.ABlk (cells)

abbrev nO (x y : Nat) : Nat := (w6 (w6 (w6 (0 + (x : Int)) + (y : Int)) - 0)).toNat
noncomputable def tOY (nv x y : AV) (M W : List UInt8) : Tbl := [(31, entF (eSay eNet [(2, nv, [])])), (45, entF (eSay (eFrom 0 2) [(3, x, []), (4, y, [])])), (27, entF (eSay eMk4 [(4, .tup [slB 4 M, .bool true], [ownB M]), (5, .tup [slB 5 M, .bool true], [ownB M]), (6, .tup [slB 6 M, .bool true], [ownB M]), (7, .tup [slB 7 M, .bool true], [ownB M])])), (28, entF (eSay eMk6 [(4, .tup [slB 4 M, .bool true], [ownB M]), (5, .tup [slB 5 M, .bool true], [ownB M]), (6, .tup [slB 6 M, .bool true], [ownB M]), (7, .tup [slB 7 M, .bool true], [ownB M])])),
  (46, entF (eSay eEqual [(4, .bool true, []), (5, .bool true, []), (6, .bool true, []), (7, .bool true, [])])), (30, entF (eSay eWith [(4, slB 4 W, [ownB W]), (5, slB 5 W, [ownB W]), (6, slB 6 W, [ownB W]), (7, slB 7 W, [ownB W])]))]
theorem tOYOk (nv x y : AV) (M W : List UInt8) : ∀ f E, (tOY nv x y M W).find f = some E → SoundE Try.prog f E := find_cons (sSay sNet _) (find_cons (sSay sAFrom _) (find_cons (sSay sMk4 _) (find_cons (sSay sMk6 _) (find_cons (sSay sEqual _) (find_cons (sSay sWith _) (find_nil _))))))
noncomputable def hOYFF0 (O M W : List UInt8) (a : UInt8) (A m : Int) : AHeap := [cells (bys O) 1 Md.far none, ABlk.cells adr0 17 Md.own none]
noncomputable def hOYFF1 (O M W : List UInt8) (a : UInt8) (A m : Int) : AHeap := []
noncomputable def hOYFF2 (O M W : List UInt8) (a : UInt8) (A m : Int) : AHeap := (hOYFF0 O M W a A m) ++ [ABlk.cells adr0 17 Md.own none]
noncomputable def hOYFF3 (O M W : List UInt8) (a : UInt8) (A m : Int) : AHeap := (hOYFF2 O M W a A m) ++ [cells (dAdr false 150) 17 Md.own none]
noncomputable def hOYFF4 (O M W : List UInt8) (a : UInt8) (A m : Int) : AHeap := ((hOYFF3 O M W a A m).set 2 (cells (dAdr false m) 17 Md.own none))
noncomputable def hOYFF5 (O M W : List UInt8) (a : UInt8) (A m : Int) : AHeap := [cells (bys M) 1 Md.own none]
noncomputable def hOYFF6 (O M W : List UInt8) (a : UInt8) (A m : Int) : AHeap := (hOYFF4 O M W a A m) ++ [cells (bys M) 1 Md.own none]
noncomputable def hOYFF7 (O M W : List UInt8) (a : UInt8) (A m : Int) : AHeap := ((hOYFF6 O M W a A m).set 1 (cells (dAdr false m) 17 Md.own none))
noncomputable def hOYFF8 (O M W : List UInt8) (a : UInt8) (A m : Int) : AHeap := [cells (bys (a :: W)) 1 Md.own none]
noncomputable def hOYFF9 (O M W : List UInt8) (a : UInt8) (A m : Int) : AHeap := (hOYFF7 O M W a A m) ++ [cells (bys (a :: W)) 1 Md.own none, cells [AV.sl (some (5, 0)) (a :: W).length 0 false, AV.sl (some (0, 0 + (w6 (A + 20)).toNat * 1)) (O.length - (w6 (A + 20)).toNat) (roomOf O.length 0 (w6 (A + 20)).toNat true O.length false) false] 1 Md.own none, ABlk.dead, cells (tk (a :: W)) 1 Md.ro none, cells (List.take ((0 + (a :: W).length) * 1) (tk (a :: W)) ++ List.take ((O.length - (w6 (A + 20)).toNat) * 1) (List.drop (0 + (w6 (A + 20)).toNat * 1) (bys O))) 1 Md.own (some 8)]
noncomputable def hOYFF10 (O M W : List UInt8) (a : UInt8) (A m : Int) : AHeap := (hOYFF9 O M W a A m).take 7 ++ [cells (putCells (zrep (nO (a :: W).length (O.length - (w6 (A + 20)).toNat)) [b8 0]) 0 (tk (a :: W))) 1 Md.ro none, cells (List.take ((0 + (a :: W).length) * 1) (putCells (zrep (nO (a :: W).length (O.length - (w6 (A + 20)).toNat)) [b8 0]) 0 (tk (a :: W))) ++ List.take ((O.length - (w6 (A + 20)).toNat) * 1) (List.drop (0 + (w6 (A + 20)).toNat * 1) (bys O))) 1 Md.own (some 7)]
noncomputable def hOYFF11 (O M W : List UInt8) (a : UInt8) (A m : Int) : AHeap := (hOYFF9 O M W a A m).take 7 ++ [cells (putCells (zrep (nO (a :: W).length (O.length - (w6 (A + 20)).toNat)) [b8 0]) 0 (tk (a :: W))) 1 Md.own none]
noncomputable def hOYFF12 (O M W : List UInt8) (a : UInt8) (A m : Int) : AHeap := ((hOYFF11 O M W a A m).set 7 (cells (putCells (putCells (zrep (nO (a :: W).length (O.length - (w6 (A + 20)).toNat)) [b8 0]) 0 (tk (a :: W))) (0 + (0 + (a :: W).length) * 1) (List.take ((O.length - (w6 (A + 20)).toNat) * 1) (List.drop (0 + (w6 (A + 20)).toNat * 1) (bys O)))) 1 Md.own none))
noncomputable def hOYFF13 (O M W : List UInt8) (a : UInt8) (A m : Int) : AHeap := (hOYFF9 O M W a A m).take 7 ++ [cells (tk (a :: W)) 1 Md.ro none, cells (List.take ((a :: W).length * 1) (tk (a :: W)) ++ List.take ((O.length - (w6 (A + 20)).toNat) * 1) (List.drop (0 + (w6 (A + 20)).toNat * 1) (bys O))) 1 Md.own (some 7)]
theorem nfOYFF {R : Type} (O M W : List UInt8) (a : UInt8) (A m : Int) (K : AV → AHeap → Option R) :
 qrun Try.prog (tOY (.tup [.int .i64 A, .int .u16 2048, .int .i64 0]) (.tup [.agg (dAdr false 150), .int .i64 0]) (.tup [.agg (dAdr false m), .int .i64 0]) M (a :: W)) 100 6 [(17, .bool false), (37, .bool false), (49, .bool true), (54, .bool true)] [] 13 [slB 0 O] [farB O] K =
 (if cdec (Says eNet [AV.sl (some (0, 0)) O.length 0 false] (hOYFF0 O M W a A m) (AV.tup [int i64 A, int u16 2048, int i64 0]) (hOYFF1 O M W a A m)) = true then
 (if 0 ≤ A ∧ A ≤ (O.length : Int) then
 (if decide ((((O.length - A.toNat) : Nat) : Int) < 20) = true then
 K (AV.tup [AV.sl none 0 0 true, AV.agg adr0, AV.bool false]) ((hOYFF2 O M W a A m))
 else (if Int.ofNat 0 ≤ Int.ofNat 16 ∧ 16 ≤ (((capOf (O.length - A.toNat) (roomOf O.length 0 A.toNat true O.length false) false) : Nat) : Int) then
 (if cdec (Says (eFrom 0 2) [AV.sl (some (0, 0 + A.toNat * 1 + 12)) 4 (roomOf (O.length - A.toNat) (roomOf O.length 0 A.toNat true O.length false) 12 false 16 false) false] (hOYFF2 O M W a A m) (AV.tup [AV.agg (dAdr false 150), int i64 0]) (hOYFF1 O M W a A m)) = true then
 (if Int.ofNat 0 ≤ Int.ofNat 20 ∧ 20 ≤ (((capOf (O.length - A.toNat) (roomOf O.length 0 A.toNat true O.length false) false) : Nat) : Int) then
 (if cdec (Says (eFrom 0 2) [AV.sl (some (0, 0 + A.toNat * 1 + 16)) 4 (roomOf (O.length - A.toNat) (roomOf O.length 0 A.toNat true O.length false) 16 false 20 false) false] (hOYFF3 O M W a A m) (AV.tup [AV.agg (dAdr false m), int i64 0]) (hOYFF1 O M W a A m)) = true then
 (if Int.ofNat 0 ≤ Int.ofNat 9 ∧ 9 < (((O.length - A.toNat) : Nat) : Int) then
 (if isIntV u8 (bys O)[0 + A.toNat * 1 + 9]? = true then
 (if cdec (Says eMk4 [AV.agg (dAdr false 150), AV.agg (dAdr false m), b8 (intV (bys O)[0 + A.toNat * 1 + 9]?), int i64 (w6 ((((O.length - A.toNat) : Nat) : Int) - 20))] (hOYFF4 O M W a A m) (AV.tup [AV.sl (some (4, 0)) M.length 0 false, AV.bool true]) (hOYFF5 O M W a A m)) = true then
 (if Int.ofNat 0 ≤ Int.ofNat 20 ∧ 20 ≤ (((capOf (O.length - A.toNat) (roomOf O.length 0 A.toNat true O.length false) false) : Nat) : Int) then
 (if cdec (Says eEqual [AV.sl (some (4, 0)) M.length 0 false, AV.sl (some (0, 0 + A.toNat * 1 + 0)) 20 (roomOf (O.length - A.toNat) (roomOf O.length 0 A.toNat true O.length false) 0 false 20 false) false] (hOYFF6 O M W a A m) (AV.bool true) (hOYFF1 O M W a A m)) = true then
 (if (AV.agg (dAdr false m)).beq (AV.agg (dAdr false m)) = true then
 (if (w6 (A + 20) == (O.length : Int)) = false then
 (if 0 ≤ w6 (A + 20) ∧ w6 (A + 20) ≤ (O.length : Int) then
 (if (intV (bys O)[0 + A.toNat * 1 + 9]? == 4) = true then
 (if Int.ofNat 0 ≤ Int.ofNat 0 ∧ 0 < (((O.length - (w6 (A + 20)).toNat) : Nat) : Int) then
 (if isIntV u8 (bys O)[0 + (w6 (A + 20)).toNat * 1 + 0]? = true then
 (if ((intV (bys O)[0 + (w6 (A + 20)).toNat * 1 + 0]?).fdiv 16 == 4) = true then
 (if cdec (Says eWith [AV.sl (some (0, 0)) O.length 0 false, int u16 2048] (hOYFF7 O M W a A m) (AV.sl (some (5, 0)) (a :: W).length 0 false) (hOYFF8 O M W a A m)) = true then
 (if decide (w6 (0 + ((a :: W).length : Int)) < 0) = true then
 none
 else (if decide (w6 (w6 (0 + ((a :: W).length : Int)) + (((O.length - (w6 (A + 20)).toNat) : Nat) : Int)) < 0) = true then
 none
 else (if decide (w6 (w6 (0 + ((a :: W).length : Int)) + (((O.length - (w6 (A + 20)).toNat) : Nat) : Int)) < 0) = true then
 none
 else (if decide (w6 (w6 (w6 (0 + ((a :: W).length : Int)) + (((O.length - (w6 (A + 20)).toNat) : Nat) : Int)) - 0) > 0) = true then
 (if 1 = 1 ∧ 0 ≤ w6 (w6 (w6 (0 + ((a :: W).length : Int)) + (((O.length - (w6 (A + 20)).toNat) : Nat) : Int)) - 0) ∧ w6 (w6 (w6 (0 + ((a :: W).length : Int)) + (((O.length - (w6 (A + 20)).toNat) : Nat) : Int)) - 0) ≤ 70368744177664 ∧ w6 (w6 (w6 (0 + ((a :: W).length : Int)) + (((O.length - (w6 (A + 20)).toNat) : Nat) : Int)) - 0) * 1 ≤ 281474976710656 then
 (if (2 * (0 + (nO (a :: W).length (O.length - (w6 (A + 20)).toNat))) + 200) * 1 ≤ 281474976710656 ∧ some 1 = some 1 ∧ 0 + (nO (a :: W).length (O.length - (w6 (A + 20)).toNat)) ≤ 70368744177664 then
 (if 0 + (a :: W).length * 1 ≤ (bys (a :: W)).length then
 (if (2 * (0 + (a :: W).length) + 200) * 1 ≤ 281474976710656 ∧ some 1 = some 1 ∧ 0 + (a :: W).length ≤ 70368744177664 then
 (if roomOf (nO (a :: W).length (O.length - (w6 (A + 20)).toNat)) 0 0 false 0 false = 0 then
 (if roomOf (nO (a :: W).length (O.length - (w6 (A + 20)).toNat)) 0 0 false 0 false = 0 ∧ 0 = (zrep (nO (a :: W).length (O.length - (w6 (A + 20)).toNat)) [b8 0]).length ∧ (0 < (a :: W).length ∨ 0 = 0) ∧ 1 = 1 ∧ (tk (a :: W)).all AV.isCell = true then
 (if 0 + (w6 (A + 20)).toNat * 1 + (O.length - (w6 (A + 20)).toNat) * 1 ≤ (bys O).length then
 (if (2 * (0 + (a :: W).length + (O.length - (w6 (A + 20)).toNat)) + 200) * 1 ≤ 281474976710656 ∧ some 1 = some 1 ∧ 0 + (a :: W).length + (O.length - (w6 (A + 20)).toNat) ≤ 70368744177664 then
 (if 0 + (0 + (a :: W).length) * 1 ≤ (tk (a :: W)).length then
 (if 0 = 0 ∧ 0 + (0 + (a :: W).length) * 1 = (tk (a :: W)).length ∧ (0 < O.length - (w6 (A + 20)).toNat ∨ 0 = 0) ∧ 1 = 1 ∧ (List.take ((O.length - (w6 (A + 20)).toNat) * 1) (List.drop (0 + (w6 (A + 20)).toNat * 1) (bys O))).all AV.isCell = true then
 (if (AV.agg (dAdr false m)).beq (AV.agg (dAdr false m)) = true then
 (if (AV.agg (dAdr false m)).beq (AV.agg (dAdr false m)) = true then
 (if (AV.agg (dAdr false m)).beq (AV.agg (dAdr false m)) = true then
 K (AV.tup [AV.sl (some (9, 0)) (0 + (a :: W).length + (O.length - (w6 (A + 20)).toNat)) 0 false, AV.agg (dAdr false m), AV.bool true]) ((hOYFF9 O M W a A m))
 else none) else none) else none) else none) else none) else none) else none) else none)
 else (if (a :: W).length ≤ roomOf (nO (a :: W).length (O.length - (w6 (A + 20)).toNat)) 0 0 false 0 false then
 (if 0 + (tk (a :: W)).length ≤ (zrep (nO (a :: W).length (O.length - (w6 (A + 20)).toNat)) [b8 0]).length ∧ (tk (a :: W)).all AV.isCell = true then
 (if 0 + (w6 (A + 20)).toNat * 1 + (O.length - (w6 (A + 20)).toNat) * 1 ≤ (bys O).length then
 (if (2 * (0 + (a :: W).length + (O.length - (w6 (A + 20)).toNat)) + 200) * 1 ≤ 281474976710656 ∧ some 1 = some 1 ∧ 0 + (a :: W).length + (O.length - (w6 (A + 20)).toNat) ≤ 70368744177664 then
 (if roomOf (nO (a :: W).length (O.length - (w6 (A + 20)).toNat)) 0 0 false 0 false - (a :: W).length = 0 then
 (if 0 + (0 + (a :: W).length) * 1 ≤ (putCells (zrep (nO (a :: W).length (O.length - (w6 (A + 20)).toNat)) [b8 0]) 0 (tk (a :: W))).length then
 (if roomOf (nO (a :: W).length (O.length - (w6 (A + 20)).toNat)) 0 0 false 0 false - (a :: W).length = 0 ∧ 0 + (0 + (a :: W).length) * 1 = (putCells (zrep (nO (a :: W).length (O.length - (w6 (A + 20)).toNat)) [b8 0]) 0 (tk (a :: W))).length ∧ (0 < O.length - (w6 (A + 20)).toNat ∨ 0 = 0) ∧ 1 = 1 ∧ (List.take ((O.length - (w6 (A + 20)).toNat) * 1) (List.drop (0 + (w6 (A + 20)).toNat * 1) (bys O))).all AV.isCell = true then
 (if (AV.agg (dAdr false m)).beq (AV.agg (dAdr false m)) = true then
 (if (AV.agg (dAdr false m)).beq (AV.agg (dAdr false m)) = true then
 (if (AV.agg (dAdr false m)).beq (AV.agg (dAdr false m)) = true then
 K (AV.tup [AV.sl (some (8, 0)) (0 + (a :: W).length + (O.length - (w6 (A + 20)).toNat)) 0 false, AV.agg (dAdr false m), AV.bool true]) ((hOYFF10 O M W a A m))
 else none) else none) else none) else none) else none)
 else (if O.length - (w6 (A + 20)).toNat ≤ roomOf (nO (a :: W).length (O.length - (w6 (A + 20)).toNat)) 0 0 false 0 false - (a :: W).length then
 (if O.length - (w6 (A + 20)).toNat = 0 then
 (if (AV.agg (dAdr false m)).beq (AV.agg (dAdr false m)) = true then
 (if (AV.agg (dAdr false m)).beq (AV.agg (dAdr false m)) = true then
 (if (AV.agg (dAdr false m)).beq (AV.agg (dAdr false m)) = true then
 K (AV.tup [AV.sl (some (7, 0)) (0 + (a :: W).length + (O.length - (w6 (A + 20)).toNat)) (roomOf (nO (a :: W).length (O.length - (w6 (A + 20)).toNat)) 0 0 false 0 false - (a :: W).length) false, AV.agg (dAdr false m), AV.bool true]) ((hOYFF11 O M W a A m))
 else none) else none) else none)
 else (if 0 + (0 + (a :: W).length) * 1 + (List.take ((O.length - (w6 (A + 20)).toNat) * 1) (List.drop (0 + (w6 (A + 20)).toNat * 1) (bys O))).length ≤ (putCells (zrep (nO (a :: W).length (O.length - (w6 (A + 20)).toNat)) [b8 0]) 0 (tk (a :: W))).length ∧ (List.take ((O.length - (w6 (A + 20)).toNat) * 1) (List.drop (0 + (w6 (A + 20)).toNat * 1) (bys O))).all AV.isCell = true then
 (if (AV.agg (dAdr false m)).beq (AV.agg (dAdr false m)) = true then
 (if (AV.agg (dAdr false m)).beq (AV.agg (dAdr false m)) = true then
 (if (AV.agg (dAdr false m)).beq (AV.agg (dAdr false m)) = true then
 K (AV.tup [AV.sl (some (7, 0)) (0 + (a :: W).length + (O.length - (w6 (A + 20)).toNat)) (roomOf (nO (a :: W).length (O.length - (w6 (A + 20)).toNat)) 0 0 false 0 false - (a :: W).length - (O.length - (w6 (A + 20)).toNat)) false, AV.agg (dAdr false m), AV.bool true]) ((hOYFF12 O M W a A m))
 else none) else none) else none) else none))
 else none))
 else none) else none) else none) else none))
 else none) else none) else none) else none)
 else (if 0 + (a :: W).length * 1 ≤ (bys (a :: W)).length then
 (if (2 * (0 + (a :: W).length) + 200) * 1 ≤ 281474976710656 ∧ some 1 = some 1 ∧ 0 + (a :: W).length ≤ 70368744177664 then
 (if 0 + (w6 (A + 20)).toNat * 1 + (O.length - (w6 (A + 20)).toNat) * 1 ≤ (bys O).length then
 (if (2 * ((a :: W).length + (O.length - (w6 (A + 20)).toNat)) + 200) * 1 ≤ 281474976710656 ∧ some 1 = some 1 ∧ (a :: W).length + (O.length - (w6 (A + 20)).toNat) ≤ 70368744177664 then
 (if 0 + (a :: W).length * 1 ≤ (tk (a :: W)).length then
 (if 0 = 0 ∧ 0 + (a :: W).length * 1 = (tk (a :: W)).length ∧ (0 < O.length - (w6 (A + 20)).toNat ∨ 0 = 0) ∧ 1 = 1 ∧ (List.take ((O.length - (w6 (A + 20)).toNat) * 1) (List.drop (0 + (w6 (A + 20)).toNat * 1) (bys O))).all AV.isCell = true then
 (if (AV.agg (dAdr false m)).beq (AV.agg (dAdr false m)) = true then
 (if (AV.agg (dAdr false m)).beq (AV.agg (dAdr false m)) = true then
 (if (AV.agg (dAdr false m)).beq (AV.agg (dAdr false m)) = true then
 K (AV.tup [AV.sl (some (8, 0)) ((a :: W).length + (O.length - (w6 (A + 20)).toNat)) 0 false, AV.agg (dAdr false m), AV.bool true]) ((hOYFF13 O M W a A m))
 else none) else none) else none) else none) else none) else none) else none) else none) else none)))))
 else none) else none) else none) else none) else none) else none) else none) else none) else none) else none) else none) else none) else none) else none) else none) else none) else none))
 else none) else none) := by
  kernel_rfl

noncomputable def hOYFT0 (O M W : List UInt8) (a : UInt8) (A m : Int) : AHeap := (hOYFF0 O M W a A m)
noncomputable def hOYFT1 (O M W : List UInt8) (a : UInt8) (A m : Int) : AHeap := []
noncomputable def hOYFT2 (O M W : List UInt8) (a : UInt8) (A m : Int) : AHeap := (hOYFF2 O M W a A m)
noncomputable def hOYFT3 (O M W : List UInt8) (a : UInt8) (A m : Int) : AHeap := (hOYFF3 O M W a A m)
noncomputable def hOYFT4 (O M W : List UInt8) (a : UInt8) (A m : Int) : AHeap := (hOYFF4 O M W a A m)
noncomputable def hOYFT5 (O M W : List UInt8) (a : UInt8) (A m : Int) : AHeap := [cells (bys M) 1 Md.own none]
noncomputable def hOYFT6 (O M W : List UInt8) (a : UInt8) (A m : Int) : AHeap := (hOYFF6 O M W a A m)
noncomputable def hOYFT7 (O M W : List UInt8) (a : UInt8) (A m : Int) : AHeap := (hOYFF7 O M W a A m)
noncomputable def hOYFT8 (O M W : List UInt8) (a : UInt8) (A m : Int) : AHeap := [cells (bys (a :: W)) 1 Md.own none]
noncomputable def hOYFT9 (O M W : List UInt8) (a : UInt8) (A m : Int) : AHeap := (hOYFF9 O M W a A m)
noncomputable def hOYFT10 (O M W : List UInt8) (a : UInt8) (A m : Int) : AHeap := (hOYFF10 O M W a A m)
noncomputable def hOYFT11 (O M W : List UInt8) (a : UInt8) (A m : Int) : AHeap := (hOYFF11 O M W a A m)
noncomputable def hOYFT12 (O M W : List UInt8) (a : UInt8) (A m : Int) : AHeap := (hOYFF12 O M W a A m)
noncomputable def hOYFT13 (O M W : List UInt8) (a : UInt8) (A m : Int) : AHeap := (hOYFF13 O M W a A m)
theorem nfOYFT {R : Type} (O M W : List UInt8) (a : UInt8) (A m : Int) (K : AV → AHeap → Option R) :
 qrun Try.prog (tOY (.tup [.int .i64 A, .int .u16 2048, .int .i64 0]) (.tup [.agg (dAdr false 150), .int .i64 0]) (.tup [.agg (dAdr false m), .int .i64 0]) M (a :: W)) 100 6 [(17, .bool false), (37, .bool false), (49, .bool false), (59, .bool true), (64, .bool true)] [] 13 [slB 0 O] [farB O] K =
 (if cdec (Says eNet [AV.sl (some (0, 0)) O.length 0 false] (hOYFT0 O M W a A m) (AV.tup [int i64 A, int u16 2048, int i64 0]) (hOYFT1 O M W a A m)) = true then
 (if 0 ≤ A ∧ A ≤ (O.length : Int) then
 (if decide ((((O.length - A.toNat) : Nat) : Int) < 20) = true then
 K (AV.tup [AV.sl none 0 0 true, AV.agg adr0, AV.bool false]) ((hOYFT2 O M W a A m))
 else (if Int.ofNat 0 ≤ Int.ofNat 16 ∧ 16 ≤ (((capOf (O.length - A.toNat) (roomOf O.length 0 A.toNat true O.length false) false) : Nat) : Int) then
 (if cdec (Says (eFrom 0 2) [AV.sl (some (0, 0 + A.toNat * 1 + 12)) 4 (roomOf (O.length - A.toNat) (roomOf O.length 0 A.toNat true O.length false) 12 false 16 false) false] (hOYFT2 O M W a A m) (AV.tup [AV.agg (dAdr false 150), int i64 0]) (hOYFT1 O M W a A m)) = true then
 (if Int.ofNat 0 ≤ Int.ofNat 20 ∧ 20 ≤ (((capOf (O.length - A.toNat) (roomOf O.length 0 A.toNat true O.length false) false) : Nat) : Int) then
 (if cdec (Says (eFrom 0 2) [AV.sl (some (0, 0 + A.toNat * 1 + 16)) 4 (roomOf (O.length - A.toNat) (roomOf O.length 0 A.toNat true O.length false) 16 false 20 false) false] (hOYFT3 O M W a A m) (AV.tup [AV.agg (dAdr false m), int i64 0]) (hOYFT1 O M W a A m)) = true then
 (if Int.ofNat 0 ≤ Int.ofNat 9 ∧ 9 < (((O.length - A.toNat) : Nat) : Int) then
 (if isIntV u8 (bys O)[0 + A.toNat * 1 + 9]? = true then
 (if cdec (Says eMk4 [AV.agg (dAdr false 150), AV.agg (dAdr false m), b8 (intV (bys O)[0 + A.toNat * 1 + 9]?), int i64 (w6 ((((O.length - A.toNat) : Nat) : Int) - 20))] (hOYFT4 O M W a A m) (AV.tup [AV.sl (some (4, 0)) M.length 0 false, AV.bool true]) (hOYFT5 O M W a A m)) = true then
 (if Int.ofNat 0 ≤ Int.ofNat 20 ∧ 20 ≤ (((capOf (O.length - A.toNat) (roomOf O.length 0 A.toNat true O.length false) false) : Nat) : Int) then
 (if cdec (Says eEqual [AV.sl (some (4, 0)) M.length 0 false, AV.sl (some (0, 0 + A.toNat * 1 + 0)) 20 (roomOf (O.length - A.toNat) (roomOf O.length 0 A.toNat true O.length false) 0 false 20 false) false] (hOYFT6 O M W a A m) (AV.bool true) (hOYFT1 O M W a A m)) = true then
 (if (AV.agg (dAdr false m)).beq (AV.agg (dAdr false m)) = true then
 (if (w6 (A + 20) == (O.length : Int)) = false then
 (if 0 ≤ w6 (A + 20) ∧ w6 (A + 20) ≤ (O.length : Int) then
 (if (intV (bys O)[0 + A.toNat * 1 + 9]? == 4) = false then
 (if (intV (bys O)[0 + A.toNat * 1 + 9]? == 41) = true then
 (if Int.ofNat 0 ≤ Int.ofNat 0 ∧ 0 < (((O.length - (w6 (A + 20)).toNat) : Nat) : Int) then
 (if isIntV u8 (bys O)[0 + (w6 (A + 20)).toNat * 1 + 0]? = true then
 (if ((intV (bys O)[0 + (w6 (A + 20)).toNat * 1 + 0]?).fdiv 16 == 6) = true then
 (if cdec (Says eWith [AV.sl (some (0, 0)) O.length 0 false, int u16 34525] (hOYFT7 O M W a A m) (AV.sl (some (5, 0)) (a :: W).length 0 false) (hOYFT8 O M W a A m)) = true then
 (if decide (w6 (0 + ((a :: W).length : Int)) < 0) = true then
 none
 else (if decide (w6 (w6 (0 + ((a :: W).length : Int)) + (((O.length - (w6 (A + 20)).toNat) : Nat) : Int)) < 0) = true then
 none
 else (if decide (w6 (w6 (0 + ((a :: W).length : Int)) + (((O.length - (w6 (A + 20)).toNat) : Nat) : Int)) < 0) = true then
 none
 else (if decide (w6 (w6 (w6 (0 + ((a :: W).length : Int)) + (((O.length - (w6 (A + 20)).toNat) : Nat) : Int)) - 0) > 0) = true then
 (if 1 = 1 ∧ 0 ≤ w6 (w6 (w6 (0 + ((a :: W).length : Int)) + (((O.length - (w6 (A + 20)).toNat) : Nat) : Int)) - 0) ∧ w6 (w6 (w6 (0 + ((a :: W).length : Int)) + (((O.length - (w6 (A + 20)).toNat) : Nat) : Int)) - 0) ≤ 70368744177664 ∧ w6 (w6 (w6 (0 + ((a :: W).length : Int)) + (((O.length - (w6 (A + 20)).toNat) : Nat) : Int)) - 0) * 1 ≤ 281474976710656 then
 (if (2 * (0 + (nO (a :: W).length (O.length - (w6 (A + 20)).toNat))) + 200) * 1 ≤ 281474976710656 ∧ some 1 = some 1 ∧ 0 + (nO (a :: W).length (O.length - (w6 (A + 20)).toNat)) ≤ 70368744177664 then
 (if 0 + (a :: W).length * 1 ≤ (bys (a :: W)).length then
 (if (2 * (0 + (a :: W).length) + 200) * 1 ≤ 281474976710656 ∧ some 1 = some 1 ∧ 0 + (a :: W).length ≤ 70368744177664 then
 (if roomOf (nO (a :: W).length (O.length - (w6 (A + 20)).toNat)) 0 0 false 0 false = 0 then
 (if roomOf (nO (a :: W).length (O.length - (w6 (A + 20)).toNat)) 0 0 false 0 false = 0 ∧ 0 = (zrep (nO (a :: W).length (O.length - (w6 (A + 20)).toNat)) [b8 0]).length ∧ (0 < (a :: W).length ∨ 0 = 0) ∧ 1 = 1 ∧ (tk (a :: W)).all AV.isCell = true then
 (if 0 + (w6 (A + 20)).toNat * 1 + (O.length - (w6 (A + 20)).toNat) * 1 ≤ (bys O).length then
 (if (2 * (0 + (a :: W).length + (O.length - (w6 (A + 20)).toNat)) + 200) * 1 ≤ 281474976710656 ∧ some 1 = some 1 ∧ 0 + (a :: W).length + (O.length - (w6 (A + 20)).toNat) ≤ 70368744177664 then
 (if 0 + (0 + (a :: W).length) * 1 ≤ (tk (a :: W)).length then
 (if 0 = 0 ∧ 0 + (0 + (a :: W).length) * 1 = (tk (a :: W)).length ∧ (0 < O.length - (w6 (A + 20)).toNat ∨ 0 = 0) ∧ 1 = 1 ∧ (List.take ((O.length - (w6 (A + 20)).toNat) * 1) (List.drop (0 + (w6 (A + 20)).toNat * 1) (bys O))).all AV.isCell = true then
 (if (AV.agg (dAdr false m)).beq (AV.agg (dAdr false m)) = true then
 (if (AV.agg (dAdr false m)).beq (AV.agg (dAdr false m)) = true then
 (if (AV.agg (dAdr false m)).beq (AV.agg (dAdr false m)) = true then
 K (AV.tup [AV.sl (some (9, 0)) (0 + (a :: W).length + (O.length - (w6 (A + 20)).toNat)) 0 false, AV.agg (dAdr false m), AV.bool true]) ((hOYFT9 O M W a A m))
 else none) else none) else none) else none) else none) else none) else none) else none)
 else (if (a :: W).length ≤ roomOf (nO (a :: W).length (O.length - (w6 (A + 20)).toNat)) 0 0 false 0 false then
 (if 0 + (tk (a :: W)).length ≤ (zrep (nO (a :: W).length (O.length - (w6 (A + 20)).toNat)) [b8 0]).length ∧ (tk (a :: W)).all AV.isCell = true then
 (if 0 + (w6 (A + 20)).toNat * 1 + (O.length - (w6 (A + 20)).toNat) * 1 ≤ (bys O).length then
 (if (2 * (0 + (a :: W).length + (O.length - (w6 (A + 20)).toNat)) + 200) * 1 ≤ 281474976710656 ∧ some 1 = some 1 ∧ 0 + (a :: W).length + (O.length - (w6 (A + 20)).toNat) ≤ 70368744177664 then
 (if roomOf (nO (a :: W).length (O.length - (w6 (A + 20)).toNat)) 0 0 false 0 false - (a :: W).length = 0 then
 (if 0 + (0 + (a :: W).length) * 1 ≤ (putCells (zrep (nO (a :: W).length (O.length - (w6 (A + 20)).toNat)) [b8 0]) 0 (tk (a :: W))).length then
 (if roomOf (nO (a :: W).length (O.length - (w6 (A + 20)).toNat)) 0 0 false 0 false - (a :: W).length = 0 ∧ 0 + (0 + (a :: W).length) * 1 = (putCells (zrep (nO (a :: W).length (O.length - (w6 (A + 20)).toNat)) [b8 0]) 0 (tk (a :: W))).length ∧ (0 < O.length - (w6 (A + 20)).toNat ∨ 0 = 0) ∧ 1 = 1 ∧ (List.take ((O.length - (w6 (A + 20)).toNat) * 1) (List.drop (0 + (w6 (A + 20)).toNat * 1) (bys O))).all AV.isCell = true then
 (if (AV.agg (dAdr false m)).beq (AV.agg (dAdr false m)) = true then
 (if (AV.agg (dAdr false m)).beq (AV.agg (dAdr false m)) = true then
 (if (AV.agg (dAdr false m)).beq (AV.agg (dAdr false m)) = true then
 K (AV.tup [AV.sl (some (8, 0)) (0 + (a :: W).length + (O.length - (w6 (A + 20)).toNat)) 0 false, AV.agg (dAdr false m), AV.bool true]) ((hOYFT10 O M W a A m))
 else none) else none) else none) else none) else none)
 else (if O.length - (w6 (A + 20)).toNat ≤ roomOf (nO (a :: W).length (O.length - (w6 (A + 20)).toNat)) 0 0 false 0 false - (a :: W).length then
 (if O.length - (w6 (A + 20)).toNat = 0 then
 (if (AV.agg (dAdr false m)).beq (AV.agg (dAdr false m)) = true then
 (if (AV.agg (dAdr false m)).beq (AV.agg (dAdr false m)) = true then
 (if (AV.agg (dAdr false m)).beq (AV.agg (dAdr false m)) = true then
 K (AV.tup [AV.sl (some (7, 0)) (0 + (a :: W).length + (O.length - (w6 (A + 20)).toNat)) (roomOf (nO (a :: W).length (O.length - (w6 (A + 20)).toNat)) 0 0 false 0 false - (a :: W).length) false, AV.agg (dAdr false m), AV.bool true]) ((hOYFT11 O M W a A m))
 else none) else none) else none)
 else (if 0 + (0 + (a :: W).length) * 1 + (List.take ((O.length - (w6 (A + 20)).toNat) * 1) (List.drop (0 + (w6 (A + 20)).toNat * 1) (bys O))).length ≤ (putCells (zrep (nO (a :: W).length (O.length - (w6 (A + 20)).toNat)) [b8 0]) 0 (tk (a :: W))).length ∧ (List.take ((O.length - (w6 (A + 20)).toNat) * 1) (List.drop (0 + (w6 (A + 20)).toNat * 1) (bys O))).all AV.isCell = true then
 (if (AV.agg (dAdr false m)).beq (AV.agg (dAdr false m)) = true then
 (if (AV.agg (dAdr false m)).beq (AV.agg (dAdr false m)) = true then
 (if (AV.agg (dAdr false m)).beq (AV.agg (dAdr false m)) = true then
 K (AV.tup [AV.sl (some (7, 0)) (0 + (a :: W).length + (O.length - (w6 (A + 20)).toNat)) (roomOf (nO (a :: W).length (O.length - (w6 (A + 20)).toNat)) 0 0 false 0 false - (a :: W).length - (O.length - (w6 (A + 20)).toNat)) false, AV.agg (dAdr false m), AV.bool true]) ((hOYFT12 O M W a A m))
 else none) else none) else none) else none))
 else none))
 else none) else none) else none) else none))
 else none) else none) else none) else none)
 else (if 0 + (a :: W).length * 1 ≤ (bys (a :: W)).length then
 (if (2 * (0 + (a :: W).length) + 200) * 1 ≤ 281474976710656 ∧ some 1 = some 1 ∧ 0 + (a :: W).length ≤ 70368744177664 then
 (if 0 + (w6 (A + 20)).toNat * 1 + (O.length - (w6 (A + 20)).toNat) * 1 ≤ (bys O).length then
 (if (2 * ((a :: W).length + (O.length - (w6 (A + 20)).toNat)) + 200) * 1 ≤ 281474976710656 ∧ some 1 = some 1 ∧ (a :: W).length + (O.length - (w6 (A + 20)).toNat) ≤ 70368744177664 then
 (if 0 + (a :: W).length * 1 ≤ (tk (a :: W)).length then
 (if 0 = 0 ∧ 0 + (a :: W).length * 1 = (tk (a :: W)).length ∧ (0 < O.length - (w6 (A + 20)).toNat ∨ 0 = 0) ∧ 1 = 1 ∧ (List.take ((O.length - (w6 (A + 20)).toNat) * 1) (List.drop (0 + (w6 (A + 20)).toNat * 1) (bys O))).all AV.isCell = true then
 (if (AV.agg (dAdr false m)).beq (AV.agg (dAdr false m)) = true then
 (if (AV.agg (dAdr false m)).beq (AV.agg (dAdr false m)) = true then
 (if (AV.agg (dAdr false m)).beq (AV.agg (dAdr false m)) = true then
 K (AV.tup [AV.sl (some (8, 0)) ((a :: W).length + (O.length - (w6 (A + 20)).toNat)) 0 false, AV.agg (dAdr false m), AV.bool true]) ((hOYFT13 O M W a A m))
 else none) else none) else none) else none) else none) else none) else none) else none) else none)))))
 else none) else none) else none) else none) else none) else none) else none) else none) else none) else none) else none) else none) else none) else none) else none) else none) else none) else none))
 else none) else none) := by
  kernel_rfl

noncomputable def hOYTF0 (O M W : List UInt8) (a : UInt8) (A m : Int) : AHeap := (hOYFF0 O M W a A m)
noncomputable def hOYTF1 (O M W : List UInt8) (a : UInt8) (A m : Int) : AHeap := []
noncomputable def hOYTF2 (O M W : List UInt8) (a : UInt8) (A m : Int) : AHeap := (hOYFF2 O M W a A m)
noncomputable def hOYTF3 (O M W : List UInt8) (a : UInt8) (A m : Int) : AHeap := (hOYFF2 O M W a A m) ++ [cells (dAdr true 150) 17 Md.own none]
noncomputable def hOYTF4 (O M W : List UInt8) (a : UInt8) (A m : Int) : AHeap := ((hOYTF3 O M W a A m).set 2 (cells (dAdr true m) 17 Md.own none))
noncomputable def hOYTF5 (O M W : List UInt8) (a : UInt8) (A m : Int) : AHeap := [cells (bys M) 1 Md.own none]
noncomputable def hOYTF6 (O M W : List UInt8) (a : UInt8) (A m : Int) : AHeap := (hOYTF4 O M W a A m) ++ [cells (bys M) 1 Md.own none]
noncomputable def hOYTF7 (O M W : List UInt8) (a : UInt8) (A m : Int) : AHeap := ((hOYTF6 O M W a A m).set 1 (cells (dAdr true m) 17 Md.own none))
noncomputable def hOYTF8 (O M W : List UInt8) (a : UInt8) (A m : Int) : AHeap := [cells (bys (a :: W)) 1 Md.own none]
noncomputable def hOYTF9 (O M W : List UInt8) (a : UInt8) (A m : Int) : AHeap := (hOYTF7 O M W a A m) ++ [cells (bys (a :: W)) 1 Md.own none, cells [AV.sl (some (5, 0)) (a :: W).length 0 false, AV.sl (some (0, 0 + (w6 (A + 40)).toNat * 1)) (O.length - (w6 (A + 40)).toNat) (roomOf O.length 0 (w6 (A + 40)).toNat true O.length false) false] 1 Md.own none, ABlk.dead, cells (tk (a :: W)) 1 Md.ro none, cells (List.take ((0 + (a :: W).length) * 1) (tk (a :: W)) ++ List.take ((O.length - (w6 (A + 40)).toNat) * 1) (List.drop (0 + (w6 (A + 40)).toNat * 1) (bys O))) 1 Md.own (some 8)]
noncomputable def hOYTF10 (O M W : List UInt8) (a : UInt8) (A m : Int) : AHeap := (hOYTF9 O M W a A m).take 7 ++ [cells (putCells (zrep (nO (a :: W).length (O.length - (w6 (A + 40)).toNat)) [b8 0]) 0 (tk (a :: W))) 1 Md.ro none, cells (List.take ((0 + (a :: W).length) * 1) (putCells (zrep (nO (a :: W).length (O.length - (w6 (A + 40)).toNat)) [b8 0]) 0 (tk (a :: W))) ++ List.take ((O.length - (w6 (A + 40)).toNat) * 1) (List.drop (0 + (w6 (A + 40)).toNat * 1) (bys O))) 1 Md.own (some 7)]
noncomputable def hOYTF11 (O M W : List UInt8) (a : UInt8) (A m : Int) : AHeap := (hOYTF9 O M W a A m).take 7 ++ [cells (putCells (zrep (nO (a :: W).length (O.length - (w6 (A + 40)).toNat)) [b8 0]) 0 (tk (a :: W))) 1 Md.own none]
noncomputable def hOYTF12 (O M W : List UInt8) (a : UInt8) (A m : Int) : AHeap := ((hOYTF11 O M W a A m).set 7 (cells (putCells (putCells (zrep (nO (a :: W).length (O.length - (w6 (A + 40)).toNat)) [b8 0]) 0 (tk (a :: W))) (0 + (0 + (a :: W).length) * 1) (List.take ((O.length - (w6 (A + 40)).toNat) * 1) (List.drop (0 + (w6 (A + 40)).toNat * 1) (bys O)))) 1 Md.own none))
noncomputable def hOYTF13 (O M W : List UInt8) (a : UInt8) (A m : Int) : AHeap := (hOYTF9 O M W a A m).take 7 ++ [cells (tk (a :: W)) 1 Md.ro none, cells (List.take ((a :: W).length * 1) (tk (a :: W)) ++ List.take ((O.length - (w6 (A + 40)).toNat) * 1) (List.drop (0 + (w6 (A + 40)).toNat * 1) (bys O))) 1 Md.own (some 7)]
theorem nfOYTF {R : Type} (O M W : List UInt8) (a : UInt8) (A m : Int) (K : AV → AHeap → Option R) :
 qrun Try.prog (tOY (.tup [.int .i64 A, .int .u16 34525, .int .i64 0]) (.tup [.agg (dAdr true 150), .int .i64 0]) (.tup [.agg (dAdr true m), .int .i64 0]) M (a :: W)) 100 6 [(17, .bool false), (37, .bool false), (49, .bool true), (54, .bool true)] [] 13 [slB 0 O] [farB O] K =
 (if cdec (Says eNet [AV.sl (some (0, 0)) O.length 0 false] (hOYTF0 O M W a A m) (AV.tup [int i64 A, int u16 34525, int i64 0]) (hOYTF1 O M W a A m)) = true then
 (if 0 ≤ A ∧ A ≤ (O.length : Int) then
 (if decide ((((O.length - A.toNat) : Nat) : Int) < 40) = true then
 K (AV.tup [AV.sl none 0 0 true, AV.agg adr0, AV.bool false]) ((hOYTF2 O M W a A m))
 else (if Int.ofNat 0 ≤ Int.ofNat 24 ∧ 24 ≤ (((capOf (O.length - A.toNat) (roomOf O.length 0 A.toNat true O.length false) false) : Nat) : Int) then
 (if cdec (Says (eFrom 0 2) [AV.sl (some (0, 0 + A.toNat * 1 + 8)) 16 (roomOf (O.length - A.toNat) (roomOf O.length 0 A.toNat true O.length false) 8 false 24 false) false] (hOYTF2 O M W a A m) (AV.tup [AV.agg (dAdr true 150), int i64 0]) (hOYTF1 O M W a A m)) = true then
 (if Int.ofNat 0 ≤ Int.ofNat 40 ∧ 40 ≤ (((capOf (O.length - A.toNat) (roomOf O.length 0 A.toNat true O.length false) false) : Nat) : Int) then
 (if cdec (Says (eFrom 0 2) [AV.sl (some (0, 0 + A.toNat * 1 + 24)) 16 (roomOf (O.length - A.toNat) (roomOf O.length 0 A.toNat true O.length false) 24 false 40 false) false] (hOYTF3 O M W a A m) (AV.tup [AV.agg (dAdr true m), int i64 0]) (hOYTF1 O M W a A m)) = true then
 (if Int.ofNat 0 ≤ Int.ofNat 6 ∧ 6 < (((O.length - A.toNat) : Nat) : Int) then
 (if isIntV u8 (bys O)[0 + A.toNat * 1 + 6]? = true then
 (if cdec (Says eMk6 [AV.agg (dAdr true 150), AV.agg (dAdr true m), b8 (intV (bys O)[0 + A.toNat * 1 + 6]?), int i64 (w6 ((((O.length - A.toNat) : Nat) : Int) - 40))] (hOYTF4 O M W a A m) (AV.tup [AV.sl (some (4, 0)) M.length 0 false, AV.bool true]) (hOYTF5 O M W a A m)) = true then
 (if Int.ofNat 0 ≤ Int.ofNat 40 ∧ 40 ≤ (((capOf (O.length - A.toNat) (roomOf O.length 0 A.toNat true O.length false) false) : Nat) : Int) then
 (if cdec (Says eEqual [AV.sl (some (4, 0)) M.length 0 false, AV.sl (some (0, 0 + A.toNat * 1 + 0)) 40 (roomOf (O.length - A.toNat) (roomOf O.length 0 A.toNat true O.length false) 0 false 40 false) false] (hOYTF6 O M W a A m) (AV.bool true) (hOYTF1 O M W a A m)) = true then
 (if (AV.agg (dAdr true m)).beq (AV.agg (dAdr true m)) = true then
 (if (w6 (A + 40) == (O.length : Int)) = false then
 (if 0 ≤ w6 (A + 40) ∧ w6 (A + 40) ≤ (O.length : Int) then
 (if (intV (bys O)[0 + A.toNat * 1 + 6]? == 4) = true then
 (if Int.ofNat 0 ≤ Int.ofNat 0 ∧ 0 < (((O.length - (w6 (A + 40)).toNat) : Nat) : Int) then
 (if isIntV u8 (bys O)[0 + (w6 (A + 40)).toNat * 1 + 0]? = true then
 (if ((intV (bys O)[0 + (w6 (A + 40)).toNat * 1 + 0]?).fdiv 16 == 4) = true then
 (if cdec (Says eWith [AV.sl (some (0, 0)) O.length 0 false, int u16 2048] (hOYTF7 O M W a A m) (AV.sl (some (5, 0)) (a :: W).length 0 false) (hOYTF8 O M W a A m)) = true then
 (if decide (w6 (0 + ((a :: W).length : Int)) < 0) = true then
 none
 else (if decide (w6 (w6 (0 + ((a :: W).length : Int)) + (((O.length - (w6 (A + 40)).toNat) : Nat) : Int)) < 0) = true then
 none
 else (if decide (w6 (w6 (0 + ((a :: W).length : Int)) + (((O.length - (w6 (A + 40)).toNat) : Nat) : Int)) < 0) = true then
 none
 else (if decide (w6 (w6 (w6 (0 + ((a :: W).length : Int)) + (((O.length - (w6 (A + 40)).toNat) : Nat) : Int)) - 0) > 0) = true then
 (if 1 = 1 ∧ 0 ≤ w6 (w6 (w6 (0 + ((a :: W).length : Int)) + (((O.length - (w6 (A + 40)).toNat) : Nat) : Int)) - 0) ∧ w6 (w6 (w6 (0 + ((a :: W).length : Int)) + (((O.length - (w6 (A + 40)).toNat) : Nat) : Int)) - 0) ≤ 70368744177664 ∧ w6 (w6 (w6 (0 + ((a :: W).length : Int)) + (((O.length - (w6 (A + 40)).toNat) : Nat) : Int)) - 0) * 1 ≤ 281474976710656 then
 (if (2 * (0 + (nO (a :: W).length (O.length - (w6 (A + 40)).toNat))) + 200) * 1 ≤ 281474976710656 ∧ some 1 = some 1 ∧ 0 + (nO (a :: W).length (O.length - (w6 (A + 40)).toNat)) ≤ 70368744177664 then
 (if 0 + (a :: W).length * 1 ≤ (bys (a :: W)).length then
 (if (2 * (0 + (a :: W).length) + 200) * 1 ≤ 281474976710656 ∧ some 1 = some 1 ∧ 0 + (a :: W).length ≤ 70368744177664 then
 (if roomOf (nO (a :: W).length (O.length - (w6 (A + 40)).toNat)) 0 0 false 0 false = 0 then
 (if roomOf (nO (a :: W).length (O.length - (w6 (A + 40)).toNat)) 0 0 false 0 false = 0 ∧ 0 = (zrep (nO (a :: W).length (O.length - (w6 (A + 40)).toNat)) [b8 0]).length ∧ (0 < (a :: W).length ∨ 0 = 0) ∧ 1 = 1 ∧ (tk (a :: W)).all AV.isCell = true then
 (if 0 + (w6 (A + 40)).toNat * 1 + (O.length - (w6 (A + 40)).toNat) * 1 ≤ (bys O).length then
 (if (2 * (0 + (a :: W).length + (O.length - (w6 (A + 40)).toNat)) + 200) * 1 ≤ 281474976710656 ∧ some 1 = some 1 ∧ 0 + (a :: W).length + (O.length - (w6 (A + 40)).toNat) ≤ 70368744177664 then
 (if 0 + (0 + (a :: W).length) * 1 ≤ (tk (a :: W)).length then
 (if 0 = 0 ∧ 0 + (0 + (a :: W).length) * 1 = (tk (a :: W)).length ∧ (0 < O.length - (w6 (A + 40)).toNat ∨ 0 = 0) ∧ 1 = 1 ∧ (List.take ((O.length - (w6 (A + 40)).toNat) * 1) (List.drop (0 + (w6 (A + 40)).toNat * 1) (bys O))).all AV.isCell = true then
 (if (AV.agg (dAdr true m)).beq (AV.agg (dAdr true m)) = true then
 (if (AV.agg (dAdr true m)).beq (AV.agg (dAdr true m)) = true then
 (if (AV.agg (dAdr true m)).beq (AV.agg (dAdr true m)) = true then
 K (AV.tup [AV.sl (some (9, 0)) (0 + (a :: W).length + (O.length - (w6 (A + 40)).toNat)) 0 false, AV.agg (dAdr true m), AV.bool true]) ((hOYTF9 O M W a A m))
 else none) else none) else none) else none) else none) else none) else none) else none)
 else (if (a :: W).length ≤ roomOf (nO (a :: W).length (O.length - (w6 (A + 40)).toNat)) 0 0 false 0 false then
 (if 0 + (tk (a :: W)).length ≤ (zrep (nO (a :: W).length (O.length - (w6 (A + 40)).toNat)) [b8 0]).length ∧ (tk (a :: W)).all AV.isCell = true then
 (if 0 + (w6 (A + 40)).toNat * 1 + (O.length - (w6 (A + 40)).toNat) * 1 ≤ (bys O).length then
 (if (2 * (0 + (a :: W).length + (O.length - (w6 (A + 40)).toNat)) + 200) * 1 ≤ 281474976710656 ∧ some 1 = some 1 ∧ 0 + (a :: W).length + (O.length - (w6 (A + 40)).toNat) ≤ 70368744177664 then
 (if roomOf (nO (a :: W).length (O.length - (w6 (A + 40)).toNat)) 0 0 false 0 false - (a :: W).length = 0 then
 (if 0 + (0 + (a :: W).length) * 1 ≤ (putCells (zrep (nO (a :: W).length (O.length - (w6 (A + 40)).toNat)) [b8 0]) 0 (tk (a :: W))).length then
 (if roomOf (nO (a :: W).length (O.length - (w6 (A + 40)).toNat)) 0 0 false 0 false - (a :: W).length = 0 ∧ 0 + (0 + (a :: W).length) * 1 = (putCells (zrep (nO (a :: W).length (O.length - (w6 (A + 40)).toNat)) [b8 0]) 0 (tk (a :: W))).length ∧ (0 < O.length - (w6 (A + 40)).toNat ∨ 0 = 0) ∧ 1 = 1 ∧ (List.take ((O.length - (w6 (A + 40)).toNat) * 1) (List.drop (0 + (w6 (A + 40)).toNat * 1) (bys O))).all AV.isCell = true then
 (if (AV.agg (dAdr true m)).beq (AV.agg (dAdr true m)) = true then
 (if (AV.agg (dAdr true m)).beq (AV.agg (dAdr true m)) = true then
 (if (AV.agg (dAdr true m)).beq (AV.agg (dAdr true m)) = true then
 K (AV.tup [AV.sl (some (8, 0)) (0 + (a :: W).length + (O.length - (w6 (A + 40)).toNat)) 0 false, AV.agg (dAdr true m), AV.bool true]) ((hOYTF10 O M W a A m))
 else none) else none) else none) else none) else none)
 else (if O.length - (w6 (A + 40)).toNat ≤ roomOf (nO (a :: W).length (O.length - (w6 (A + 40)).toNat)) 0 0 false 0 false - (a :: W).length then
 (if O.length - (w6 (A + 40)).toNat = 0 then
 (if (AV.agg (dAdr true m)).beq (AV.agg (dAdr true m)) = true then
 (if (AV.agg (dAdr true m)).beq (AV.agg (dAdr true m)) = true then
 (if (AV.agg (dAdr true m)).beq (AV.agg (dAdr true m)) = true then
 K (AV.tup [AV.sl (some (7, 0)) (0 + (a :: W).length + (O.length - (w6 (A + 40)).toNat)) (roomOf (nO (a :: W).length (O.length - (w6 (A + 40)).toNat)) 0 0 false 0 false - (a :: W).length) false, AV.agg (dAdr true m), AV.bool true]) ((hOYTF11 O M W a A m))
 else none) else none) else none)
 else (if 0 + (0 + (a :: W).length) * 1 + (List.take ((O.length - (w6 (A + 40)).toNat) * 1) (List.drop (0 + (w6 (A + 40)).toNat * 1) (bys O))).length ≤ (putCells (zrep (nO (a :: W).length (O.length - (w6 (A + 40)).toNat)) [b8 0]) 0 (tk (a :: W))).length ∧ (List.take ((O.length - (w6 (A + 40)).toNat) * 1) (List.drop (0 + (w6 (A + 40)).toNat * 1) (bys O))).all AV.isCell = true then
 (if (AV.agg (dAdr true m)).beq (AV.agg (dAdr true m)) = true then
 (if (AV.agg (dAdr true m)).beq (AV.agg (dAdr true m)) = true then
 (if (AV.agg (dAdr true m)).beq (AV.agg (dAdr true m)) = true then
 K (AV.tup [AV.sl (some (7, 0)) (0 + (a :: W).length + (O.length - (w6 (A + 40)).toNat)) (roomOf (nO (a :: W).length (O.length - (w6 (A + 40)).toNat)) 0 0 false 0 false - (a :: W).length - (O.length - (w6 (A + 40)).toNat)) false, AV.agg (dAdr true m), AV.bool true]) ((hOYTF12 O M W a A m))
 else none) else none) else none) else none))
 else none))
 else none) else none) else none) else none))
 else none) else none) else none) else none)
 else (if 0 + (a :: W).length * 1 ≤ (bys (a :: W)).length then
 (if (2 * (0 + (a :: W).length) + 200) * 1 ≤ 281474976710656 ∧ some 1 = some 1 ∧ 0 + (a :: W).length ≤ 70368744177664 then
 (if 0 + (w6 (A + 40)).toNat * 1 + (O.length - (w6 (A + 40)).toNat) * 1 ≤ (bys O).length then
 (if (2 * ((a :: W).length + (O.length - (w6 (A + 40)).toNat)) + 200) * 1 ≤ 281474976710656 ∧ some 1 = some 1 ∧ (a :: W).length + (O.length - (w6 (A + 40)).toNat) ≤ 70368744177664 then
 (if 0 + (a :: W).length * 1 ≤ (tk (a :: W)).length then
 (if 0 = 0 ∧ 0 + (a :: W).length * 1 = (tk (a :: W)).length ∧ (0 < O.length - (w6 (A + 40)).toNat ∨ 0 = 0) ∧ 1 = 1 ∧ (List.take ((O.length - (w6 (A + 40)).toNat) * 1) (List.drop (0 + (w6 (A + 40)).toNat * 1) (bys O))).all AV.isCell = true then
 (if (AV.agg (dAdr true m)).beq (AV.agg (dAdr true m)) = true then
 (if (AV.agg (dAdr true m)).beq (AV.agg (dAdr true m)) = true then
 (if (AV.agg (dAdr true m)).beq (AV.agg (dAdr true m)) = true then
 K (AV.tup [AV.sl (some (8, 0)) ((a :: W).length + (O.length - (w6 (A + 40)).toNat)) 0 false, AV.agg (dAdr true m), AV.bool true]) ((hOYTF13 O M W a A m))
 else none) else none) else none) else none) else none) else none) else none) else none) else none)))))
 else none) else none) else none) else none) else none) else none) else none) else none) else none) else none) else none) else none) else none) else none) else none) else none) else none))
 else none) else none) := by
  kernel_rfl

noncomputable def hOYTT0 (O M W : List UInt8) (a : UInt8) (A m : Int) : AHeap := (hOYFT0 O M W a A m)
noncomputable def hOYTT1 (O M W : List UInt8) (a : UInt8) (A m : Int) : AHeap := []
noncomputable def hOYTT2 (O M W : List UInt8) (a : UInt8) (A m : Int) : AHeap := (hOYFT2 O M W a A m)
noncomputable def hOYTT3 (O M W : List UInt8) (a : UInt8) (A m : Int) : AHeap := (hOYTF3 O M W a A m)
noncomputable def hOYTT4 (O M W : List UInt8) (a : UInt8) (A m : Int) : AHeap := (hOYTF4 O M W a A m)
noncomputable def hOYTT5 (O M W : List UInt8) (a : UInt8) (A m : Int) : AHeap := [cells (bys M) 1 Md.own none]
noncomputable def hOYTT6 (O M W : List UInt8) (a : UInt8) (A m : Int) : AHeap := (hOYTF6 O M W a A m)
noncomputable def hOYTT7 (O M W : List UInt8) (a : UInt8) (A m : Int) : AHeap := (hOYTF7 O M W a A m)
noncomputable def hOYTT8 (O M W : List UInt8) (a : UInt8) (A m : Int) : AHeap := [cells (bys (a :: W)) 1 Md.own none]
noncomputable def hOYTT9 (O M W : List UInt8) (a : UInt8) (A m : Int) : AHeap := (hOYTF9 O M W a A m)
noncomputable def hOYTT10 (O M W : List UInt8) (a : UInt8) (A m : Int) : AHeap := (hOYTF10 O M W a A m)
noncomputable def hOYTT11 (O M W : List UInt8) (a : UInt8) (A m : Int) : AHeap := (hOYTF11 O M W a A m)
noncomputable def hOYTT12 (O M W : List UInt8) (a : UInt8) (A m : Int) : AHeap := (hOYTF12 O M W a A m)
noncomputable def hOYTT13 (O M W : List UInt8) (a : UInt8) (A m : Int) : AHeap := (hOYTF13 O M W a A m)
theorem nfOYTT {R : Type} (O M W : List UInt8) (a : UInt8) (A m : Int) (K : AV → AHeap → Option R) :
 qrun Try.prog (tOY (.tup [.int .i64 A, .int .u16 34525, .int .i64 0]) (.tup [.agg (dAdr true 150), .int .i64 0]) (.tup [.agg (dAdr true m), .int .i64 0]) M (a :: W)) 100 6 [(17, .bool false), (37, .bool false), (49, .bool false), (59, .bool true), (64, .bool true)] [] 13 [slB 0 O] [farB O] K =
 (if cdec (Says eNet [AV.sl (some (0, 0)) O.length 0 false] (hOYTT0 O M W a A m) (AV.tup [int i64 A, int u16 34525, int i64 0]) (hOYTT1 O M W a A m)) = true then
 (if 0 ≤ A ∧ A ≤ (O.length : Int) then
 (if decide ((((O.length - A.toNat) : Nat) : Int) < 40) = true then
 K (AV.tup [AV.sl none 0 0 true, AV.agg adr0, AV.bool false]) ((hOYTT2 O M W a A m))
 else (if Int.ofNat 0 ≤ Int.ofNat 24 ∧ 24 ≤ (((capOf (O.length - A.toNat) (roomOf O.length 0 A.toNat true O.length false) false) : Nat) : Int) then
 (if cdec (Says (eFrom 0 2) [AV.sl (some (0, 0 + A.toNat * 1 + 8)) 16 (roomOf (O.length - A.toNat) (roomOf O.length 0 A.toNat true O.length false) 8 false 24 false) false] (hOYTT2 O M W a A m) (AV.tup [AV.agg (dAdr true 150), int i64 0]) (hOYTT1 O M W a A m)) = true then
 (if Int.ofNat 0 ≤ Int.ofNat 40 ∧ 40 ≤ (((capOf (O.length - A.toNat) (roomOf O.length 0 A.toNat true O.length false) false) : Nat) : Int) then
 (if cdec (Says (eFrom 0 2) [AV.sl (some (0, 0 + A.toNat * 1 + 24)) 16 (roomOf (O.length - A.toNat) (roomOf O.length 0 A.toNat true O.length false) 24 false 40 false) false] (hOYTT3 O M W a A m) (AV.tup [AV.agg (dAdr true m), int i64 0]) (hOYTT1 O M W a A m)) = true then
 (if Int.ofNat 0 ≤ Int.ofNat 6 ∧ 6 < (((O.length - A.toNat) : Nat) : Int) then
 (if isIntV u8 (bys O)[0 + A.toNat * 1 + 6]? = true then
 (if cdec (Says eMk6 [AV.agg (dAdr true 150), AV.agg (dAdr true m), b8 (intV (bys O)[0 + A.toNat * 1 + 6]?), int i64 (w6 ((((O.length - A.toNat) : Nat) : Int) - 40))] (hOYTT4 O M W a A m) (AV.tup [AV.sl (some (4, 0)) M.length 0 false, AV.bool true]) (hOYTT5 O M W a A m)) = true then
 (if Int.ofNat 0 ≤ Int.ofNat 40 ∧ 40 ≤ (((capOf (O.length - A.toNat) (roomOf O.length 0 A.toNat true O.length false) false) : Nat) : Int) then
 (if cdec (Says eEqual [AV.sl (some (4, 0)) M.length 0 false, AV.sl (some (0, 0 + A.toNat * 1 + 0)) 40 (roomOf (O.length - A.toNat) (roomOf O.length 0 A.toNat true O.length false) 0 false 40 false) false] (hOYTT6 O M W a A m) (AV.bool true) (hOYTT1 O M W a A m)) = true then
 (if (AV.agg (dAdr true m)).beq (AV.agg (dAdr true m)) = true then
 (if (w6 (A + 40) == (O.length : Int)) = false then
 (if 0 ≤ w6 (A + 40) ∧ w6 (A + 40) ≤ (O.length : Int) then
 (if (intV (bys O)[0 + A.toNat * 1 + 6]? == 4) = false then
 (if (intV (bys O)[0 + A.toNat * 1 + 6]? == 41) = true then
 (if Int.ofNat 0 ≤ Int.ofNat 0 ∧ 0 < (((O.length - (w6 (A + 40)).toNat) : Nat) : Int) then
 (if isIntV u8 (bys O)[0 + (w6 (A + 40)).toNat * 1 + 0]? = true then
 (if ((intV (bys O)[0 + (w6 (A + 40)).toNat * 1 + 0]?).fdiv 16 == 6) = true then
 (if cdec (Says eWith [AV.sl (some (0, 0)) O.length 0 false, int u16 34525] (hOYTT7 O M W a A m) (AV.sl (some (5, 0)) (a :: W).length 0 false) (hOYTT8 O M W a A m)) = true then
 (if decide (w6 (0 + ((a :: W).length : Int)) < 0) = true then
 none
 else (if decide (w6 (w6 (0 + ((a :: W).length : Int)) + (((O.length - (w6 (A + 40)).toNat) : Nat) : Int)) < 0) = true then
 none
 else (if decide (w6 (w6 (0 + ((a :: W).length : Int)) + (((O.length - (w6 (A + 40)).toNat) : Nat) : Int)) < 0) = true then
 none
 else (if decide (w6 (w6 (w6 (0 + ((a :: W).length : Int)) + (((O.length - (w6 (A + 40)).toNat) : Nat) : Int)) - 0) > 0) = true then
 (if 1 = 1 ∧ 0 ≤ w6 (w6 (w6 (0 + ((a :: W).length : Int)) + (((O.length - (w6 (A + 40)).toNat) : Nat) : Int)) - 0) ∧ w6 (w6 (w6 (0 + ((a :: W).length : Int)) + (((O.length - (w6 (A + 40)).toNat) : Nat) : Int)) - 0) ≤ 70368744177664 ∧ w6 (w6 (w6 (0 + ((a :: W).length : Int)) + (((O.length - (w6 (A + 40)).toNat) : Nat) : Int)) - 0) * 1 ≤ 281474976710656 then
 (if (2 * (0 + (nO (a :: W).length (O.length - (w6 (A + 40)).toNat))) + 200) * 1 ≤ 281474976710656 ∧ some 1 = some 1 ∧ 0 + (nO (a :: W).length (O.length - (w6 (A + 40)).toNat)) ≤ 70368744177664 then
 (if 0 + (a :: W).length * 1 ≤ (bys (a :: W)).length then
 (if (2 * (0 + (a :: W).length) + 200) * 1 ≤ 281474976710656 ∧ some 1 = some 1 ∧ 0 + (a :: W).length ≤ 70368744177664 then
 (if roomOf (nO (a :: W).length (O.length - (w6 (A + 40)).toNat)) 0 0 false 0 false = 0 then
 (if roomOf (nO (a :: W).length (O.length - (w6 (A + 40)).toNat)) 0 0 false 0 false = 0 ∧ 0 = (zrep (nO (a :: W).length (O.length - (w6 (A + 40)).toNat)) [b8 0]).length ∧ (0 < (a :: W).length ∨ 0 = 0) ∧ 1 = 1 ∧ (tk (a :: W)).all AV.isCell = true then
 (if 0 + (w6 (A + 40)).toNat * 1 + (O.length - (w6 (A + 40)).toNat) * 1 ≤ (bys O).length then
 (if (2 * (0 + (a :: W).length + (O.length - (w6 (A + 40)).toNat)) + 200) * 1 ≤ 281474976710656 ∧ some 1 = some 1 ∧ 0 + (a :: W).length + (O.length - (w6 (A + 40)).toNat) ≤ 70368744177664 then
 (if 0 + (0 + (a :: W).length) * 1 ≤ (tk (a :: W)).length then
 (if 0 = 0 ∧ 0 + (0 + (a :: W).length) * 1 = (tk (a :: W)).length ∧ (0 < O.length - (w6 (A + 40)).toNat ∨ 0 = 0) ∧ 1 = 1 ∧ (List.take ((O.length - (w6 (A + 40)).toNat) * 1) (List.drop (0 + (w6 (A + 40)).toNat * 1) (bys O))).all AV.isCell = true then
 (if (AV.agg (dAdr true m)).beq (AV.agg (dAdr true m)) = true then
 (if (AV.agg (dAdr true m)).beq (AV.agg (dAdr true m)) = true then
 (if (AV.agg (dAdr true m)).beq (AV.agg (dAdr true m)) = true then
 K (AV.tup [AV.sl (some (9, 0)) (0 + (a :: W).length + (O.length - (w6 (A + 40)).toNat)) 0 false, AV.agg (dAdr true m), AV.bool true]) ((hOYTT9 O M W a A m))
 else none) else none) else none) else none) else none) else none) else none) else none)
 else (if (a :: W).length ≤ roomOf (nO (a :: W).length (O.length - (w6 (A + 40)).toNat)) 0 0 false 0 false then
 (if 0 + (tk (a :: W)).length ≤ (zrep (nO (a :: W).length (O.length - (w6 (A + 40)).toNat)) [b8 0]).length ∧ (tk (a :: W)).all AV.isCell = true then
 (if 0 + (w6 (A + 40)).toNat * 1 + (O.length - (w6 (A + 40)).toNat) * 1 ≤ (bys O).length then
 (if (2 * (0 + (a :: W).length + (O.length - (w6 (A + 40)).toNat)) + 200) * 1 ≤ 281474976710656 ∧ some 1 = some 1 ∧ 0 + (a :: W).length + (O.length - (w6 (A + 40)).toNat) ≤ 70368744177664 then
 (if roomOf (nO (a :: W).length (O.length - (w6 (A + 40)).toNat)) 0 0 false 0 false - (a :: W).length = 0 then
 (if 0 + (0 + (a :: W).length) * 1 ≤ (putCells (zrep (nO (a :: W).length (O.length - (w6 (A + 40)).toNat)) [b8 0]) 0 (tk (a :: W))).length then
 (if roomOf (nO (a :: W).length (O.length - (w6 (A + 40)).toNat)) 0 0 false 0 false - (a :: W).length = 0 ∧ 0 + (0 + (a :: W).length) * 1 = (putCells (zrep (nO (a :: W).length (O.length - (w6 (A + 40)).toNat)) [b8 0]) 0 (tk (a :: W))).length ∧ (0 < O.length - (w6 (A + 40)).toNat ∨ 0 = 0) ∧ 1 = 1 ∧ (List.take ((O.length - (w6 (A + 40)).toNat) * 1) (List.drop (0 + (w6 (A + 40)).toNat * 1) (bys O))).all AV.isCell = true then
 (if (AV.agg (dAdr true m)).beq (AV.agg (dAdr true m)) = true then
 (if (AV.agg (dAdr true m)).beq (AV.agg (dAdr true m)) = true then
 (if (AV.agg (dAdr true m)).beq (AV.agg (dAdr true m)) = true then
 K (AV.tup [AV.sl (some (8, 0)) (0 + (a :: W).length + (O.length - (w6 (A + 40)).toNat)) 0 false, AV.agg (dAdr true m), AV.bool true]) ((hOYTT10 O M W a A m))
 else none) else none) else none) else none) else none)
 else (if O.length - (w6 (A + 40)).toNat ≤ roomOf (nO (a :: W).length (O.length - (w6 (A + 40)).toNat)) 0 0 false 0 false - (a :: W).length then
 (if O.length - (w6 (A + 40)).toNat = 0 then
 (if (AV.agg (dAdr true m)).beq (AV.agg (dAdr true m)) = true then
 (if (AV.agg (dAdr true m)).beq (AV.agg (dAdr true m)) = true then
 (if (AV.agg (dAdr true m)).beq (AV.agg (dAdr true m)) = true then
 K (AV.tup [AV.sl (some (7, 0)) (0 + (a :: W).length + (O.length - (w6 (A + 40)).toNat)) (roomOf (nO (a :: W).length (O.length - (w6 (A + 40)).toNat)) 0 0 false 0 false - (a :: W).length) false, AV.agg (dAdr true m), AV.bool true]) ((hOYTT11 O M W a A m))
 else none) else none) else none)
 else (if 0 + (0 + (a :: W).length) * 1 + (List.take ((O.length - (w6 (A + 40)).toNat) * 1) (List.drop (0 + (w6 (A + 40)).toNat * 1) (bys O))).length ≤ (putCells (zrep (nO (a :: W).length (O.length - (w6 (A + 40)).toNat)) [b8 0]) 0 (tk (a :: W))).length ∧ (List.take ((O.length - (w6 (A + 40)).toNat) * 1) (List.drop (0 + (w6 (A + 40)).toNat * 1) (bys O))).all AV.isCell = true then
 (if (AV.agg (dAdr true m)).beq (AV.agg (dAdr true m)) = true then
 (if (AV.agg (dAdr true m)).beq (AV.agg (dAdr true m)) = true then
 (if (AV.agg (dAdr true m)).beq (AV.agg (dAdr true m)) = true then
 K (AV.tup [AV.sl (some (7, 0)) (0 + (a :: W).length + (O.length - (w6 (A + 40)).toNat)) (roomOf (nO (a :: W).length (O.length - (w6 (A + 40)).toNat)) 0 0 false 0 false - (a :: W).length - (O.length - (w6 (A + 40)).toNat)) false, AV.agg (dAdr true m), AV.bool true]) ((hOYTT12 O M W a A m))
 else none) else none) else none) else none))
 else none))
 else none) else none) else none) else none))
 else none) else none) else none) else none)
 else (if 0 + (a :: W).length * 1 ≤ (bys (a :: W)).length then
 (if (2 * (0 + (a :: W).length) + 200) * 1 ≤ 281474976710656 ∧ some 1 = some 1 ∧ 0 + (a :: W).length ≤ 70368744177664 then
 (if 0 + (w6 (A + 40)).toNat * 1 + (O.length - (w6 (A + 40)).toNat) * 1 ≤ (bys O).length then
 (if (2 * ((a :: W).length + (O.length - (w6 (A + 40)).toNat)) + 200) * 1 ≤ 281474976710656 ∧ some 1 = some 1 ∧ (a :: W).length + (O.length - (w6 (A + 40)).toNat) ≤ 70368744177664 then
 (if 0 + (a :: W).length * 1 ≤ (tk (a :: W)).length then
 (if 0 = 0 ∧ 0 + (a :: W).length * 1 = (tk (a :: W)).length ∧ (0 < O.length - (w6 (A + 40)).toNat ∨ 0 = 0) ∧ 1 = 1 ∧ (List.take ((O.length - (w6 (A + 40)).toNat) * 1) (List.drop (0 + (w6 (A + 40)).toNat * 1) (bys O))).all AV.isCell = true then
 (if (AV.agg (dAdr true m)).beq (AV.agg (dAdr true m)) = true then
 (if (AV.agg (dAdr true m)).beq (AV.agg (dAdr true m)) = true then
 (if (AV.agg (dAdr true m)).beq (AV.agg (dAdr true m)) = true then
 K (AV.tup [AV.sl (some (8, 0)) ((a :: W).length + (O.length - (w6 (A + 40)).toNat)) 0 false, AV.agg (dAdr true m), AV.bool true]) ((hOYTT13 O M W a A m))
 else none) else none) else none) else none) else none) else none) else none) else none) else none)))))
 else none) else none) else none) else none) else none) else none) else none) else none) else none) else none) else none) else none) else none) else none) else none) else none) else none) else none))
 else none) else none) := by
  kernel_rfl


end Go.Proofs.Ytjkkhbeidhpghaa.L
