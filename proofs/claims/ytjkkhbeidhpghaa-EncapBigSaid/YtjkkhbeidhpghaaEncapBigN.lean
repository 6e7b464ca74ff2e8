/- EncapBig's run: what the kernel makes of it. -/
import Derived.Test.YtjkkhbeidhpghaaEncIn
import Derived.Test.YtjkkhbeidhpghaaBigKit
import Derived.Test.YtjkkhbeidhpghaaSayFour
import Derived.Test.YtjkkhbeidhpghaaAwake10
set_option autoImplicit false
set_option maxRecDepth 100000
set_option linter.unusedVariables false
set_option linter.unusedSimpArgs false
namespace Go.Proofs.Ytjkkhbeidhpghaa.L
open Go Go.Abs
open Go.IntKind
open Go.Abs.AV (int)
open Go.Abs.ABlk (cells)

abbrev nB (s k : Int) : Int := i64.wrap (i64.wrap (s + k) - 2)
noncomputable def tEB (M O : List UInt8) (v : AV) : Tbl := [(9, entF eKey), (10, entF eDip), (16, entF eRound), (18, entF (eSay eMk4 [(2, .tup [slB 2 M, .bool true], [ownB M])])), (17, entF (eSay eMk6 [(2, .tup [slB 2 M, .bool true], [ownB M])])),
  (11, entF (eRel InR [(7, .tup [slB 7 O, v], [ownB O])])), (7, entF eAwake)]
theorem tEBOk (M O : List UInt8) (v : AV) : ∀ f E, (tEB M O v).find f = some E → SoundE Try.prog f E := find_cons sKey (find_cons sDip (find_cons sRound (find_cons (sSay sRMk4 _) (find_cons (sSay sRMk6 _) (find_cons (sIn _) (find_cons sAwake (find_nil _)))))))
noncomputable def hEBFF10 (pad k : Int) (b : UInt8) (M : List UInt8) : AHeap := [cells [b8 17, AV.bool false, b8 10, b8 0, b8 0, b8 3, b8 0, b8 0, b8 0, b8 0, b8 0, b8 0, b8 0, b8 0, b8 0, b8 0, b8 0, b8 0, AV.bool false, b8 192, b8 168, b8 0, b8 1, b8 0, b8 0, b8 0, b8 0, b8 0, b8 0, b8 0, b8 0, b8 0, b8 0, b8 0, b8 0, int u16 1003, int u16 80] 37 Md.own none, cells (putCells (putCells (zrep (nB 65515 k).toNat [b8 0]) 12 [b8 8]) 13 [b8 0]) 1 Md.own none]
noncomputable def hEBFF11 (pad k : Int) (b : UInt8) (M : List UInt8) : AHeap := [cells (bys (b :: M)) 1 Md.own none]
noncomputable def hEBFF12 (pad k : Int) (b : UInt8) (M : List UInt8) : AHeap := [cells [b8 17, AV.bool false, b8 10, b8 0, b8 0, b8 3, b8 0, b8 0, b8 0, b8 0, b8 0, b8 0, b8 0, b8 0, b8 0, b8 0, b8 0, b8 0, AV.bool false, b8 192, b8 168, b8 0, b8 1, b8 0, b8 0, b8 0, b8 0, b8 0, b8 0, b8 0, b8 0, b8 0, b8 0, b8 0, b8 0, int u16 1003, int u16 80] 37 Md.own none, cells (putCells (putCells (putCells (putCells (zrep (nB 65515 k).toNat [b8 0]) 12 [b8 8]) 13 [b8 0]) 38 [b8 0]) 39 [b8 8]) 1 Md.own none, cells (bys (b :: M)) 1 Md.own none, cells (dAdr false 150) 17 Md.own none, cells (dAdr false 150) 17 Md.own none, cells (dAdr true 150) 17 Md.own none, cells (dAdr true 150) 17 Md.own none]
noncomputable def hEBFF13 (pad k : Int) (b : UInt8) (M : List UInt8) : AHeap := [cells [] 1 Md.own none]
noncomputable def hEBFF14 (pad k : Int) (b : UInt8) (M : List UInt8) : AHeap := [cells [b8 17, AV.bool false, b8 10, b8 0, b8 0, b8 3, b8 0, b8 0, b8 0, b8 0, b8 0, b8 0, b8 0, b8 0, b8 0, b8 0, b8 0, b8 0, AV.bool false, b8 192, b8 168, b8 0, b8 1, b8 0, b8 0, b8 0, b8 0, b8 0, b8 0, b8 0, b8 0, b8 0, b8 0, b8 0, b8 0, int u16 1003, int u16 80] 37 Md.own none, cells (putCells (putCells (putCells (putCells (putCells (zrep (nB 65515 k).toNat [b8 0]) 12 [b8 8]) 13 [b8 0]) 14 (List.take ((b :: M).length.min ((nB 65515 k).toNat - 14) * 1) (bys (b :: M)))) 38 [b8 0]) 39 [b8 8]) 1 Md.own none, cells (bys (b :: M)) 1 Md.own none, cells (dAdr false 150) 17 Md.own none, cells (dAdr false 150) 17 Md.own none, cells (dAdr true 150) 17 Md.own none, cells (dAdr true 150) 17 Md.own none]
theorem nfEBFF1 {R : Type} (pad k : Int) (b : UInt8) (M : List UInt8) (K : AV → Option R) :
 qrun Try.prog (tEB (b :: M) [] (.int .i64 9)) 100 5 [(23, .int .i64 k), (105, .bool true), (108, .bool true), (113, .bool true)] [] 5 [.bool false, .bool false, .int .i64 pad] [] (fun v _ => K v) =
 (if i64 = i64 ∧ pad % 5 = k then
 (if 1 = 1 ∧ 0 < 1 ∧ 0 ≤ nB 65515 k ∧ nB 65515 k ≤ nB 65515 k ∧ nB 65515 k ≤ 70368744177664 ∧ 1 * nB 65515 k ≤ 281474976710656 then
 (if Int.ofNat 0 ≤ Int.ofNat 12 ∧ 12 < (((nB 65515 k).toNat : Nat) : Int) then
 (if 12 + [b8 8].length ≤ (zrep (nB 65515 k).toNat [b8 0]).length ∧ [b8 8].all AV.isCell = true then
 (if Int.ofNat 0 ≤ Int.ofNat 13 ∧ 13 < (((nB 65515 k).toNat : Nat) : Int) then
 (if 13 + [b8 0].length ≤ (putCells (zrep (nB 65515 k).toNat [b8 0]) 12 [b8 8]).length ∧ [b8 0].all AV.isCell = true then
 (if cdec (Says eMk4 [AV.agg (kSrc false 3), AV.agg (kDst false), b8 (intV (some (b8 17))), int i64 (i64.wrap (i64.wrap (nB 65515 k - 14) - 20))] (hEBFF10 pad k b M) (AV.tup [AV.sl (some (2, 0)) (b :: M).length 0 false, AV.bool true]) (hEBFF11 pad k b M)) = true then
 (if Int.ofNat 0 ≤ Int.ofNat 14 ∧ 14 ≤ (((nB 65515 k).toNat : Nat) : Int) then
 (if 0 + (b :: M).length.min ((nB 65515 k).toNat - 14) * 1 ≤ (bys (b :: M)).length then
 (if (List.take ((b :: M).length.min ((nB 65515 k).toNat - 14) * 1) (bys (b :: M))).length = 0 then
 (if Int.ofNat 0 ≤ Int.ofNat 38 ∧ 38 < (((nB 65515 k).toNat : Nat) : Int) then
 (if 38 + [b8 0].length ≤ (putCells (putCells (zrep (nB 65515 k).toNat [b8 0]) 12 [b8 8]) 13 [b8 0]).length ∧ [b8 0].all AV.isCell = true then
 (if Int.ofNat 0 ≤ Int.ofNat 39 ∧ 39 < (((nB 65515 k).toNat : Nat) : Int) then
 (if 39 + [b8 8].length ≤ (putCells (putCells (putCells (zrep (nB 65515 k).toNat [b8 0]) 12 [b8 8]) 13 [b8 0]) 38 [b8 0]).length ∧ [b8 8].all AV.isCell = true then
 (if cdec
 (InR
 [AV.sl (some (1, 0)) (nB 65515 k).toNat
 (match true with
 | true => 0
 | false => (i64.wrap (i64.wrap (i64.wrap (65535 - 20) + k) - 2)).toNat)
 false,
 AV.agg (dAdr false 150), AV.agg (dAdr true 150), AV.agg (dAdr false 1)]
 (hEBFF12 pad k b M) (AV.tup [AV.sl (some (7, 0)) 0 0 false, int i64 9]) (hEBFF13 pad k b M)) =
 true then
 (if decide (i64.wrap (nB 65515 k + 20) > 65535) = true then
 K (AV.bool true)
 else none) else none) else none) else none) else none) else none)
 else (if 0 < (nB 65515 k).toNat - 14 then
 (if 14 + (List.take ((b :: M).length.min ((nB 65515 k).toNat - 14) * 1) (bys (b :: M))).length ≤ (putCells (putCells (zrep (nB 65515 k).toNat [b8 0]) 12 [b8 8]) 13 [b8 0]).length ∧ (List.take ((b :: M).length.min ((nB 65515 k).toNat - 14) * 1) (bys (b :: M))).all AV.isCell = true then
 (if Int.ofNat 0 ≤ Int.ofNat 38 ∧ 38 < (((nB 65515 k).toNat : Nat) : Int) then
 (if 38 + [b8 0].length ≤ (putCells (putCells (putCells (zrep (nB 65515 k).toNat [b8 0]) 12 [b8 8]) 13 [b8 0]) 14 (List.take ((b :: M).length.min ((nB 65515 k).toNat - 14) * 1) (bys (b :: M)))).length ∧ [b8 0].all AV.isCell = true then
 (if Int.ofNat 0 ≤ Int.ofNat 39 ∧ 39 < (((nB 65515 k).toNat : Nat) : Int) then
 (if 39 + [b8 8].length ≤ (putCells (putCells (putCells (putCells (zrep (nB 65515 k).toNat [b8 0]) 12 [b8 8]) 13 [b8 0]) 14 (List.take ((b :: M).length.min ((nB 65515 k).toNat - 14) * 1) (bys (b :: M)))) 38 [b8 0]).length ∧ [b8 8].all AV.isCell = true then
 (if cdec
 (InR
 [AV.sl (some (1, 0)) (nB 65515 k).toNat
 (match true with
 | true => 0
 | false => (i64.wrap (i64.wrap (i64.wrap (65535 - 20) + k) - 2)).toNat)
 false,
 AV.agg (dAdr false 150), AV.agg (dAdr true 150), AV.agg (dAdr false 1)]
 (hEBFF14 pad k b M) (AV.tup [AV.sl (some (7, 0)) 0 0 false, int i64 9]) (hEBFF13 pad k b M)) =
 true then
 (if decide (i64.wrap (nB 65515 k + 20) > 65535) = true then
 K (AV.bool true)
 else none) else none) else none) else none) else none) else none) else none) else none))
 else none) else none) else none) else none) else none) else none) else none) else none) else none) := by
  kernel_rfl

noncomputable def hEBFF20 (pad k : Int) (b : UInt8) (M O : List UInt8) : AHeap := [cells [b8 17, AV.bool false, b8 10, b8 0, b8 0, b8 3, b8 0, b8 0, b8 0, b8 0, b8 0, b8 0, b8 0, b8 0, b8 0, b8 0, b8 0, b8 0, AV.bool false, b8 192, b8 168, b8 0, b8 1, b8 0, b8 0, b8 0, b8 0, b8 0, b8 0, b8 0, b8 0, b8 0, b8 0, b8 0, b8 0, int u16 1003, int u16 80] 37 Md.own none, cells (putCells (putCells (zrep (nB 65515 k).toNat [b8 0]) 12 [b8 8]) 13 [b8 0]) 1 Md.own none]
noncomputable def hEBFF21 (pad k : Int) (b : UInt8) (M O : List UInt8) : AHeap := [cells (bys (b :: M)) 1 Md.own none]
noncomputable def hEBFF22 (pad k : Int) (b : UInt8) (M O : List UInt8) : AHeap := [cells [b8 17, AV.bool false, b8 10, b8 0, b8 0, b8 3, b8 0, b8 0, b8 0, b8 0, b8 0, b8 0, b8 0, b8 0, b8 0, b8 0, b8 0, b8 0, AV.bool false, b8 192, b8 168, b8 0, b8 1, b8 0, b8 0, b8 0, b8 0, b8 0, b8 0, b8 0, b8 0, b8 0, b8 0, b8 0, b8 0, int u16 1003, int u16 80] 37 Md.own none, cells (putCells (putCells (putCells (putCells (zrep (nB 65515 k).toNat [b8 0]) 12 [b8 8]) 13 [b8 0]) 38 [b8 0]) 39 [b8 8]) 1 Md.own none, cells (bys (b :: M)) 1 Md.own none, cells (dAdr false 150) 17 Md.own none, cells (dAdr false 150) 17 Md.own none, cells (dAdr true 150) 17 Md.own none, cells (dAdr true 150) 17 Md.own none]
noncomputable def hEBFF23 (pad k : Int) (b : UInt8) (M O : List UInt8) : AHeap := [cells (bys O) 1 Md.own none]
noncomputable def hEBFF24 (pad k : Int) (b : UInt8) (M O : List UInt8) : AHeap := [cells [b8 17, AV.bool false, b8 10, b8 0, b8 0, b8 3, b8 0, b8 0, b8 0, b8 0, b8 0, b8 0, b8 0, b8 0, b8 0, b8 0, b8 0, b8 0, AV.bool false, b8 192, b8 168, b8 0, b8 1, b8 0, b8 0, b8 0, b8 0, b8 0, b8 0, b8 0, b8 0, b8 0, b8 0, b8 0, b8 0, int u16 1003, int u16 80] 37 Md.own none, cells (putCells (putCells (putCells (putCells (putCells (zrep (nB 65515 k).toNat [b8 0]) 12 [b8 8]) 13 [b8 0]) 14 (List.take ((b :: M).length.min ((nB 65515 k).toNat - 14) * 1) (bys (b :: M)))) 38 [b8 0]) 39 [b8 8]) 1 Md.own none, cells (bys (b :: M)) 1 Md.own none, cells (dAdr false 150) 17 Md.own none, cells (dAdr false 150) 17 Md.own none, cells (dAdr true 150) 17 Md.own none, cells (dAdr true 150) 17 Md.own none]
theorem nfEBFF2 {R : Type} (pad k : Int) (b : UInt8) (M O : List UInt8) (K : AV → Option R) :
 qrun Try.prog (tEB (b :: M) O (.int .i64 0)) 100 5 [(23, .int .i64 k), (105, .bool false), (118, .bool true), (126, .bool true)] [] 5 [.bool false, .bool false, .int .i64 pad] [] (fun v _ => K v) =
 (if i64 = i64 ∧ pad % 5 = k then
 (if 1 = 1 ∧ 0 < 1 ∧ 0 ≤ nB 65515 k ∧ nB 65515 k ≤ nB 65515 k ∧ nB 65515 k ≤ 70368744177664 ∧ 1 * nB 65515 k ≤ 281474976710656 then
 (if Int.ofNat 0 ≤ Int.ofNat 12 ∧ 12 < (((nB 65515 k).toNat : Nat) : Int) then
 (if 12 + [b8 8].length ≤ (zrep (nB 65515 k).toNat [b8 0]).length ∧ [b8 8].all AV.isCell = true then
 (if Int.ofNat 0 ≤ Int.ofNat 13 ∧ 13 < (((nB 65515 k).toNat : Nat) : Int) then
 (if 13 + [b8 0].length ≤ (putCells (zrep (nB 65515 k).toNat [b8 0]) 12 [b8 8]).length ∧ [b8 0].all AV.isCell = true then
 (if cdec (Says eMk4 [AV.agg (kSrc false 3), AV.agg (kDst false), b8 (intV (some (b8 17))), int i64 (i64.wrap (i64.wrap (nB 65515 k - 14) - 20))] (hEBFF20 pad k b M O) (AV.tup [AV.sl (some (2, 0)) (b :: M).length 0 false, AV.bool true]) (hEBFF21 pad k b M O)) = true then
 (if Int.ofNat 0 ≤ Int.ofNat 14 ∧ 14 ≤ (((nB 65515 k).toNat : Nat) : Int) then
 (if 0 + (b :: M).length.min ((nB 65515 k).toNat - 14) * 1 ≤ (bys (b :: M)).length then
 (if (List.take ((b :: M).length.min ((nB 65515 k).toNat - 14) * 1) (bys (b :: M))).length = 0 then
 (if Int.ofNat 0 ≤ Int.ofNat 38 ∧ 38 < (((nB 65515 k).toNat : Nat) : Int) then
 (if 38 + [b8 0].length ≤ (putCells (putCells (zrep (nB 65515 k).toNat [b8 0]) 12 [b8 8]) 13 [b8 0]).length ∧ [b8 0].all AV.isCell = true then
 (if Int.ofNat 0 ≤ Int.ofNat 39 ∧ 39 < (((nB 65515 k).toNat : Nat) : Int) then
 (if 39 + [b8 8].length ≤ (putCells (putCells (putCells (zrep (nB 65515 k).toNat [b8 0]) 12 [b8 8]) 13 [b8 0]) 38 [b8 0]).length ∧ [b8 8].all AV.isCell = true then
 (if cdec
 (InR
 [AV.sl (some (1, 0)) (nB 65515 k).toNat
 (match true with
 | true => 0
 | false => (i64.wrap (i64.wrap (i64.wrap (65535 - 20) + k) - 2)).toNat)
 false,
 AV.agg (dAdr false 150), AV.agg (dAdr true 150), AV.agg (dAdr false 1)]
 (hEBFF22 pad k b M O) (AV.tup [AV.sl (some (7, 0)) O.length 0 false, int i64 0]) (hEBFF23 pad k b M O)) =
 true then
 (if decide (i64.wrap (nB 65515 k + 20) > 65535) = false then
 (if ((O.length : Int) == i64.wrap (nB 65515 k + 20)) = true then
 K (AV.bool true)
 else none) else none) else none) else none) else none) else none) else none)
 else (if 0 < (nB 65515 k).toNat - 14 then
 (if 14 + (List.take ((b :: M).length.min ((nB 65515 k).toNat - 14) * 1) (bys (b :: M))).length ≤ (putCells (putCells (zrep (nB 65515 k).toNat [b8 0]) 12 [b8 8]) 13 [b8 0]).length ∧ (List.take ((b :: M).length.min ((nB 65515 k).toNat - 14) * 1) (bys (b :: M))).all AV.isCell = true then
 (if Int.ofNat 0 ≤ Int.ofNat 38 ∧ 38 < (((nB 65515 k).toNat : Nat) : Int) then
 (if 38 + [b8 0].length ≤ (putCells (putCells (putCells (zrep (nB 65515 k).toNat [b8 0]) 12 [b8 8]) 13 [b8 0]) 14 (List.take ((b :: M).length.min ((nB 65515 k).toNat - 14) * 1) (bys (b :: M)))).length ∧ [b8 0].all AV.isCell = true then
 (if Int.ofNat 0 ≤ Int.ofNat 39 ∧ 39 < (((nB 65515 k).toNat : Nat) : Int) then
 (if 39 + [b8 8].length ≤ (putCells (putCells (putCells (putCells (zrep (nB 65515 k).toNat [b8 0]) 12 [b8 8]) 13 [b8 0]) 14 (List.take ((b :: M).length.min ((nB 65515 k).toNat - 14) * 1) (bys (b :: M)))) 38 [b8 0]).length ∧ [b8 8].all AV.isCell = true then
 (if cdec
 (InR
 [AV.sl (some (1, 0)) (nB 65515 k).toNat
 (match true with
 | true => 0
 | false => (i64.wrap (i64.wrap (i64.wrap (65535 - 20) + k) - 2)).toNat)
 false,
 AV.agg (dAdr false 150), AV.agg (dAdr true 150), AV.agg (dAdr false 1)]
 (hEBFF24 pad k b M O) (AV.tup [AV.sl (some (7, 0)) O.length 0 false, int i64 0]) (hEBFF23 pad k b M O)) =
 true then
 (if decide (i64.wrap (nB 65515 k + 20) > 65535) = false then
 (if ((O.length : Int) == i64.wrap (nB 65515 k + 20)) = true then
 K (AV.bool true)
 else none) else none) else none) else none) else none) else none) else none) else none) else none))
 else none) else none) else none) else none) else none) else none) else none) else none) else none) := by
  kernel_rfl

noncomputable def hEBFT10 (pad k : Int) (b : UInt8) (M : List UInt8) : AHeap := [cells [b8 17, AV.bool false, b8 10, b8 0, b8 0, b8 3, b8 0, b8 0, b8 0, b8 0, b8 0, b8 0, b8 0, b8 0, b8 0, b8 0, b8 0, b8 0, AV.bool false, b8 192, b8 168, b8 0, b8 1, b8 0, b8 0, b8 0, b8 0, b8 0, b8 0, b8 0, b8 0, b8 0, b8 0, b8 0, b8 0, int u16 1003, int u16 80] 37 Md.own none, cells (putCells (putCells (zrep (nB 65495 k).toNat [b8 0]) 12 [b8 8]) 13 [b8 0]) 1 Md.own none]
noncomputable def hEBFT11 (pad k : Int) (b : UInt8) (M : List UInt8) : AHeap := [cells (bys (b :: M)) 1 Md.own none]
noncomputable def hEBFT12 (pad k : Int) (b : UInt8) (M : List UInt8) : AHeap := [cells [b8 17, AV.bool false, b8 10, b8 0, b8 0, b8 3, b8 0, b8 0, b8 0, b8 0, b8 0, b8 0, b8 0, b8 0, b8 0, b8 0, b8 0, b8 0, AV.bool false, b8 192, b8 168, b8 0, b8 1, b8 0, b8 0, b8 0, b8 0, b8 0, b8 0, b8 0, b8 0, b8 0, b8 0, b8 0, b8 0, int u16 1003, int u16 80] 37 Md.own none, cells (putCells (putCells (putCells (putCells (zrep (nB 65495 k).toNat [b8 0]) 12 [b8 8]) 13 [b8 0]) 38 [b8 0]) 39 [b8 8]) 1 Md.own none, cells (bys (b :: M)) 1 Md.own none, cells (dAdr false 150) 17 Md.own none, cells (dAdr false 150) 17 Md.own none, cells (dAdr true 150) 17 Md.own none, cells (dAdr true 150) 17 Md.own none]
noncomputable def hEBFT13 (pad k : Int) (b : UInt8) (M : List UInt8) : AHeap := [cells [] 1 Md.own none]
noncomputable def hEBFT14 (pad k : Int) (b : UInt8) (M : List UInt8) : AHeap := [cells [b8 17, AV.bool false, b8 10, b8 0, b8 0, b8 3, b8 0, b8 0, b8 0, b8 0, b8 0, b8 0, b8 0, b8 0, b8 0, b8 0, b8 0, b8 0, AV.bool false, b8 192, b8 168, b8 0, b8 1, b8 0, b8 0, b8 0, b8 0, b8 0, b8 0, b8 0, b8 0, b8 0, b8 0, b8 0, b8 0, int u16 1003, int u16 80] 37 Md.own none, cells (putCells (putCells (putCells (putCells (putCells (zrep (nB 65495 k).toNat [b8 0]) 12 [b8 8]) 13 [b8 0]) 14 (List.take ((b :: M).length.min ((nB 65495 k).toNat - 14) * 1) (bys (b :: M)))) 38 [b8 0]) 39 [b8 8]) 1 Md.own none, cells (bys (b :: M)) 1 Md.own none, cells (dAdr false 150) 17 Md.own none, cells (dAdr false 150) 17 Md.own none, cells (dAdr true 150) 17 Md.own none, cells (dAdr true 150) 17 Md.own none]
theorem nfEBFT1 {R : Type} (pad k : Int) (b : UInt8) (M : List UInt8) (K : AV → Option R) :
 qrun Try.prog (tEB (b :: M) [] (.int .i64 9)) 100 5 [(23, .int .i64 k), (105, .bool true), (108, .bool true), (113, .bool true)] [] 5 [.bool false, .bool true, .int .i64 pad] [] (fun v _ => K v) =
 (if i64 = i64 ∧ pad % 5 = k then
 (if 1 = 1 ∧ 0 < 1 ∧ 0 ≤ nB 65495 k ∧ nB 65495 k ≤ nB 65495 k ∧ nB 65495 k ≤ 70368744177664 ∧ 1 * nB 65495 k ≤ 281474976710656 then
 (if Int.ofNat 0 ≤ Int.ofNat 12 ∧ 12 < (((nB 65495 k).toNat : Nat) : Int) then
 (if 12 + [b8 8].length ≤ (zrep (nB 65495 k).toNat [b8 0]).length ∧ [b8 8].all AV.isCell = true then
 (if Int.ofNat 0 ≤ Int.ofNat 13 ∧ 13 < (((nB 65495 k).toNat : Nat) : Int) then
 (if 13 + [b8 0].length ≤ (putCells (zrep (nB 65495 k).toNat [b8 0]) 12 [b8 8]).length ∧ [b8 0].all AV.isCell = true then
 (if cdec (Says eMk4 [AV.agg (kSrc false 3), AV.agg (kDst false), b8 (intV (some (b8 17))), int i64 (i64.wrap (i64.wrap (nB 65495 k - 14) - 20))] (hEBFT10 pad k b M) (AV.tup [AV.sl (some (2, 0)) (b :: M).length 0 false, AV.bool true]) (hEBFT11 pad k b M)) = true then
 (if Int.ofNat 0 ≤ Int.ofNat 14 ∧ 14 ≤ (((nB 65495 k).toNat : Nat) : Int) then
 (if 0 + (b :: M).length.min ((nB 65495 k).toNat - 14) * 1 ≤ (bys (b :: M)).length then
 (if (List.take ((b :: M).length.min ((nB 65495 k).toNat - 14) * 1) (bys (b :: M))).length = 0 then
 (if Int.ofNat 0 ≤ Int.ofNat 38 ∧ 38 < (((nB 65495 k).toNat : Nat) : Int) then
 (if 38 + [b8 0].length ≤ (putCells (putCells (zrep (nB 65495 k).toNat [b8 0]) 12 [b8 8]) 13 [b8 0]).length ∧ [b8 0].all AV.isCell = true then
 (if Int.ofNat 0 ≤ Int.ofNat 39 ∧ 39 < (((nB 65495 k).toNat : Nat) : Int) then
 (if 39 + [b8 8].length ≤ (putCells (putCells (putCells (zrep (nB 65495 k).toNat [b8 0]) 12 [b8 8]) 13 [b8 0]) 38 [b8 0]).length ∧ [b8 8].all AV.isCell = true then
 (if cdec
 (InR
 [AV.sl (some (1, 0)) (nB 65495 k).toNat
 (match true with
 | true => 0
 | false => (i64.wrap (i64.wrap (i64.wrap (65535 - 40) + k) - 2)).toNat)
 false,
 AV.agg (dAdr false 150), AV.agg (dAdr true 150), AV.agg (dAdr true 1)]
 (hEBFT12 pad k b M) (AV.tup [AV.sl (some (7, 0)) 0 0 false, int i64 9]) (hEBFT13 pad k b M)) =
 true then
 (if decide (i64.wrap (nB 65495 k + 40) > 65535) = true then
 K (AV.bool true)
 else none) else none) else none) else none) else none) else none)
 else (if 0 < (nB 65495 k).toNat - 14 then
 (if 14 + (List.take ((b :: M).length.min ((nB 65495 k).toNat - 14) * 1) (bys (b :: M))).length ≤ (putCells (putCells (zrep (nB 65495 k).toNat [b8 0]) 12 [b8 8]) 13 [b8 0]).length ∧ (List.take ((b :: M).length.min ((nB 65495 k).toNat - 14) * 1) (bys (b :: M))).all AV.isCell = true then
 (if Int.ofNat 0 ≤ Int.ofNat 38 ∧ 38 < (((nB 65495 k).toNat : Nat) : Int) then
 (if 38 + [b8 0].length ≤ (putCells (putCells (putCells (zrep (nB 65495 k).toNat [b8 0]) 12 [b8 8]) 13 [b8 0]) 14 (List.take ((b :: M).length.min ((nB 65495 k).toNat - 14) * 1) (bys (b :: M)))).length ∧ [b8 0].all AV.isCell = true then
 (if Int.ofNat 0 ≤ Int.ofNat 39 ∧ 39 < (((nB 65495 k).toNat : Nat) : Int) then
 (if 39 + [b8 8].length ≤ (putCells (putCells (putCells (putCells (zrep (nB 65495 k).toNat [b8 0]) 12 [b8 8]) 13 [b8 0]) 14 (List.take ((b :: M).length.min ((nB 65495 k).toNat - 14) * 1) (bys (b :: M)))) 38 [b8 0]).length ∧ [b8 8].all AV.isCell = true then
 (if cdec
 (InR
 [AV.sl (some (1, 0)) (nB 65495 k).toNat
 (match true with
 | true => 0
 | false => (i64.wrap (i64.wrap (i64.wrap (65535 - 40) + k) - 2)).toNat)
 false,
 AV.agg (dAdr false 150), AV.agg (dAdr true 150), AV.agg (dAdr true 1)]
 (hEBFT14 pad k b M) (AV.tup [AV.sl (some (7, 0)) 0 0 false, int i64 9]) (hEBFT13 pad k b M)) =
 true then
 (if decide (i64.wrap (nB 65495 k + 40) > 65535) = true then
 K (AV.bool true)
 else none) else none) else none) else none) else none) else none) else none) else none))
 else none) else none) else none) else none) else none) else none) else none) else none) else none) := by
  kernel_rfl

noncomputable def hEBFT20 (pad k : Int) (b : UInt8) (M O : List UInt8) : AHeap := [cells [b8 17, AV.bool false, b8 10, b8 0, b8 0, b8 3, b8 0, b8 0, b8 0, b8 0, b8 0, b8 0, b8 0, b8 0, b8 0, b8 0, b8 0, b8 0, AV.bool false, b8 192, b8 168, b8 0, b8 1, b8 0, b8 0, b8 0, b8 0, b8 0, b8 0, b8 0, b8 0, b8 0, b8 0, b8 0, b8 0, int u16 1003, int u16 80] 37 Md.own none, cells (putCells (putCells (zrep (nB 65495 k).toNat [b8 0]) 12 [b8 8]) 13 [b8 0]) 1 Md.own none]
noncomputable def hEBFT21 (pad k : Int) (b : UInt8) (M O : List UInt8) : AHeap := [cells (bys (b :: M)) 1 Md.own none]
noncomputable def hEBFT22 (pad k : Int) (b : UInt8) (M O : List UInt8) : AHeap := [cells [b8 17, AV.bool false, b8 10, b8 0, b8 0, b8 3, b8 0, b8 0, b8 0, b8 0, b8 0, b8 0, b8 0, b8 0, b8 0, b8 0, b8 0, b8 0, AV.bool false, b8 192, b8 168, b8 0, b8 1, b8 0, b8 0, b8 0, b8 0, b8 0, b8 0, b8 0, b8 0, b8 0, b8 0, b8 0, b8 0, int u16 1003, int u16 80] 37 Md.own none, cells (putCells (putCells (putCells (putCells (zrep (nB 65495 k).toNat [b8 0]) 12 [b8 8]) 13 [b8 0]) 38 [b8 0]) 39 [b8 8]) 1 Md.own none, cells (bys (b :: M)) 1 Md.own none, cells (dAdr false 150) 17 Md.own none, cells (dAdr false 150) 17 Md.own none, cells (dAdr true 150) 17 Md.own none, cells (dAdr true 150) 17 Md.own none]
noncomputable def hEBFT23 (pad k : Int) (b : UInt8) (M O : List UInt8) : AHeap := [cells (bys O) 1 Md.own none]
noncomputable def hEBFT24 (pad k : Int) (b : UInt8) (M O : List UInt8) : AHeap := [cells [b8 17, AV.bool false, b8 10, b8 0, b8 0, b8 3, b8 0, b8 0, b8 0, b8 0, b8 0, b8 0, b8 0, b8 0, b8 0, b8 0, b8 0, b8 0, AV.bool false, b8 192, b8 168, b8 0, b8 1, b8 0, b8 0, b8 0, b8 0, b8 0, b8 0, b8 0, b8 0, b8 0, b8 0, b8 0, b8 0, int u16 1003, int u16 80] 37 Md.own none, cells (putCells (putCells (putCells (putCells (putCells (zrep (nB 65495 k).toNat [b8 0]) 12 [b8 8]) 13 [b8 0]) 14 (List.take ((b :: M).length.min ((nB 65495 k).toNat - 14) * 1) (bys (b :: M)))) 38 [b8 0]) 39 [b8 8]) 1 Md.own none, cells (bys (b :: M)) 1 Md.own none, cells (dAdr false 150) 17 Md.own none, cells (dAdr false 150) 17 Md.own none, cells (dAdr true 150) 17 Md.own none, cells (dAdr true 150) 17 Md.own none]
theorem nfEBFT2 {R : Type} (pad k : Int) (b : UInt8) (M O : List UInt8) (K : AV → Option R) :
 qrun Try.prog (tEB (b :: M) O (.int .i64 0)) 100 5 [(23, .int .i64 k), (105, .bool false), (118, .bool true), (126, .bool true)] [] 5 [.bool false, .bool true, .int .i64 pad] [] (fun v _ => K v) =
 (if i64 = i64 ∧ pad % 5 = k then
 (if 1 = 1 ∧ 0 < 1 ∧ 0 ≤ nB 65495 k ∧ nB 65495 k ≤ nB 65495 k ∧ nB 65495 k ≤ 70368744177664 ∧ 1 * nB 65495 k ≤ 281474976710656 then
 (if Int.ofNat 0 ≤ Int.ofNat 12 ∧ 12 < (((nB 65495 k).toNat : Nat) : Int) then
 (if 12 + [b8 8].length ≤ (zrep (nB 65495 k).toNat [b8 0]).length ∧ [b8 8].all AV.isCell = true then
 (if Int.ofNat 0 ≤ Int.ofNat 13 ∧ 13 < (((nB 65495 k).toNat : Nat) : Int) then
 (if 13 + [b8 0].length ≤ (putCells (zrep (nB 65495 k).toNat [b8 0]) 12 [b8 8]).length ∧ [b8 0].all AV.isCell = true then
 (if cdec (Says eMk4 [AV.agg (kSrc false 3), AV.agg (kDst false), b8 (intV (some (b8 17))), int i64 (i64.wrap (i64.wrap (nB 65495 k - 14) - 20))] (hEBFT20 pad k b M O) (AV.tup [AV.sl (some (2, 0)) (b :: M).length 0 false, AV.bool true]) (hEBFT21 pad k b M O)) = true then
 (if Int.ofNat 0 ≤ Int.ofNat 14 ∧ 14 ≤ (((nB 65495 k).toNat : Nat) : Int) then
 (if 0 + (b :: M).length.min ((nB 65495 k).toNat - 14) * 1 ≤ (bys (b :: M)).length then
 (if (List.take ((b :: M).length.min ((nB 65495 k).toNat - 14) * 1) (bys (b :: M))).length = 0 then
 (if Int.ofNat 0 ≤ Int.ofNat 38 ∧ 38 < (((nB 65495 k).toNat : Nat) : Int) then
 (if 38 + [b8 0].length ≤ (putCells (putCells (zrep (nB 65495 k).toNat [b8 0]) 12 [b8 8]) 13 [b8 0]).length ∧ [b8 0].all AV.isCell = true then
 (if Int.ofNat 0 ≤ Int.ofNat 39 ∧ 39 < (((nB 65495 k).toNat : Nat) : Int) then
 (if 39 + [b8 8].length ≤ (putCells (putCells (putCells (zrep (nB 65495 k).toNat [b8 0]) 12 [b8 8]) 13 [b8 0]) 38 [b8 0]).length ∧ [b8 8].all AV.isCell = true then
 (if cdec
 (InR
 [AV.sl (some (1, 0)) (nB 65495 k).toNat
 (match true with
 | true => 0
 | false => (i64.wrap (i64.wrap (i64.wrap (65535 - 40) + k) - 2)).toNat)
 false,
 AV.agg (dAdr false 150), AV.agg (dAdr true 150), AV.agg (dAdr true 1)]
 (hEBFT22 pad k b M O) (AV.tup [AV.sl (some (7, 0)) O.length 0 false, int i64 0]) (hEBFT23 pad k b M O)) =
 true then
 (if decide (i64.wrap (nB 65495 k + 40) > 65535) = false then
 (if ((O.length : Int) == i64.wrap (nB 65495 k + 40)) = true then
 K (AV.bool true)
 else none) else none) else none) else none) else none) else none) else none)
 else (if 0 < (nB 65495 k).toNat - 14 then
 (if 14 + (List.take ((b :: M).length.min ((nB 65495 k).toNat - 14) * 1) (bys (b :: M))).length ≤ (putCells (putCells (zrep (nB 65495 k).toNat [b8 0]) 12 [b8 8]) 13 [b8 0]).length ∧ (List.take ((b :: M).length.min ((nB 65495 k).toNat - 14) * 1) (bys (b :: M))).all AV.isCell = true then
 (if Int.ofNat 0 ≤ Int.ofNat 38 ∧ 38 < (((nB 65495 k).toNat : Nat) : Int) then
 (if 38 + [b8 0].length ≤ (putCells (putCells (putCells (zrep (nB 65495 k).toNat [b8 0]) 12 [b8 8]) 13 [b8 0]) 14 (List.take ((b :: M).length.min ((nB 65495 k).toNat - 14) * 1) (bys (b :: M)))).length ∧ [b8 0].all AV.isCell = true then
 (if Int.ofNat 0 ≤ Int.ofNat 39 ∧ 39 < (((nB 65495 k).toNat : Nat) : Int) then
 (if 39 + [b8 8].length ≤ (putCells (putCells (putCells (putCells (zrep (nB 65495 k).toNat [b8 0]) 12 [b8 8]) 13 [b8 0]) 14 (List.take ((b :: M).length.min ((nB 65495 k).toNat - 14) * 1) (bys (b :: M)))) 38 [b8 0]).length ∧ [b8 8].all AV.isCell = true then
 (if cdec
 (InR
 [AV.sl (some (1, 0)) (nB 65495 k).toNat
 (match true with
 | true => 0
 | false => (i64.wrap (i64.wrap (i64.wrap (65535 - 40) + k) - 2)).toNat)
 false,
 AV.agg (dAdr false 150), AV.agg (dAdr true 150), AV.agg (dAdr true 1)]
 (hEBFT24 pad k b M O) (AV.tup [AV.sl (some (7, 0)) O.length 0 false, int i64 0]) (hEBFT23 pad k b M O)) =
 true then
 (if decide (i64.wrap (nB 65495 k + 40) > 65535) = false then
 (if ((O.length : Int) == i64.wrap (nB 65495 k + 40)) = true then
 K (AV.bool true)
 else none) else none) else none) else none) else none) else none) else none) else none) else none))
 else none) else none) else none) else none) else none) else none) else none) else none) else none) := by
  kernel_rfl

noncomputable def hEBTF10 (pad k : Int) (b : UInt8) (M : List UInt8) : AHeap := [cells [b8 17, AV.bool true, b8 10, b8 0, b8 0, b8 3, b8 0, b8 0, b8 0, b8 0, b8 0, b8 0, b8 0, b8 0, b8 0, b8 0, b8 0, b8 0, AV.bool true, b8 192, b8 168, b8 0, b8 1, b8 0, b8 0, b8 0, b8 0, b8 0, b8 0, b8 0, b8 0, b8 0, b8 0, b8 0, b8 0, int u16 1003, int u16 80] 37 Md.own none, cells (putCells (putCells (putCells (putCells (zrep (nB 65515 k).toNat [b8 0]) 12 [b8 8]) 13 [b8 0]) 12 [b8 134]) 13 [b8 221]) 1 Md.own none]
noncomputable def hEBTF11 (pad k : Int) (b : UInt8) (M : List UInt8) : AHeap := [cells (bys (b :: M)) 1 Md.own none]
noncomputable def hEBTF12 (pad k : Int) (b : UInt8) (M : List UInt8) : AHeap := [cells [b8 17, AV.bool true, b8 10, b8 0, b8 0, b8 3, b8 0, b8 0, b8 0, b8 0, b8 0, b8 0, b8 0, b8 0, b8 0, b8 0, b8 0, b8 0, AV.bool true, b8 192, b8 168, b8 0, b8 1, b8 0, b8 0, b8 0, b8 0, b8 0, b8 0, b8 0, b8 0, b8 0, b8 0, b8 0, b8 0, int u16 1003, int u16 80] 37 Md.own none, cells (putCells (putCells (putCells (putCells (putCells (putCells (zrep (nB 65515 k).toNat [b8 0]) 12 [b8 8]) 13 [b8 0]) 12 [b8 134]) 13 [b8 221]) 58 [b8 0]) 59 [b8 8]) 1 Md.own none, cells (bys (b :: M)) 1 Md.own none, cells (dAdr false 150) 17 Md.own none, cells (dAdr false 150) 17 Md.own none, cells (dAdr true 150) 17 Md.own none, cells (dAdr true 150) 17 Md.own none]
noncomputable def hEBTF13 (pad k : Int) (b : UInt8) (M : List UInt8) : AHeap := [cells [] 1 Md.own none]
noncomputable def hEBTF14 (pad k : Int) (b : UInt8) (M : List UInt8) : AHeap := [cells [b8 17, AV.bool true, b8 10, b8 0, b8 0, b8 3, b8 0, b8 0, b8 0, b8 0, b8 0, b8 0, b8 0, b8 0, b8 0, b8 0, b8 0, b8 0, AV.bool true, b8 192, b8 168, b8 0, b8 1, b8 0, b8 0, b8 0, b8 0, b8 0, b8 0, b8 0, b8 0, b8 0, b8 0, b8 0, b8 0, int u16 1003, int u16 80] 37 Md.own none, cells (putCells (putCells (putCells (putCells (putCells (putCells (putCells (zrep (nB 65515 k).toNat [b8 0]) 12 [b8 8]) 13 [b8 0]) 12 [b8 134]) 13 [b8 221]) 14 (List.take ((b :: M).length.min ((nB 65515 k).toNat - 14) * 1) (bys (b :: M)))) 58 [b8 0]) 59 [b8 8]) 1 Md.own none, cells (bys (b :: M)) 1 Md.own none, cells (dAdr false 150) 17 Md.own none, cells (dAdr false 150) 17 Md.own none, cells (dAdr true 150) 17 Md.own none, cells (dAdr true 150) 17 Md.own none]
theorem nfEBTF1 {R : Type} (pad k : Int) (b : UInt8) (M : List UInt8) (K : AV → Option R) :
 qrun Try.prog (tEB (b :: M) [] (.int .i64 9)) 100 5 [(23, .int .i64 k), (105, .bool true), (108, .bool true), (113, .bool true)] [] 5 [.bool true, .bool false, .int .i64 pad] [] (fun v _ => K v) =
 (if i64 = i64 ∧ pad % 5 = k then
 (if 1 = 1 ∧ 0 < 1 ∧ 0 ≤ nB 65515 k ∧ nB 65515 k ≤ nB 65515 k ∧ nB 65515 k ≤ 70368744177664 ∧ 1 * nB 65515 k ≤ 281474976710656 then
 (if Int.ofNat 0 ≤ Int.ofNat 12 ∧ 12 < (((nB 65515 k).toNat : Nat) : Int) then
 (if 12 + [b8 8].length ≤ (zrep (nB 65515 k).toNat [b8 0]).length ∧ [b8 8].all AV.isCell = true then
 (if Int.ofNat 0 ≤ Int.ofNat 13 ∧ 13 < (((nB 65515 k).toNat : Nat) : Int) then
 (if 13 + [b8 0].length ≤ (putCells (zrep (nB 65515 k).toNat [b8 0]) 12 [b8 8]).length ∧ [b8 0].all AV.isCell = true then
 (if Int.ofNat 0 ≤ Int.ofNat 12 ∧ 12 < (((nB 65515 k).toNat : Nat) : Int) then
 (if 12 + [b8 134].length ≤ (putCells (putCells (zrep (nB 65515 k).toNat [b8 0]) 12 [b8 8]) 13 [b8 0]).length ∧ [b8 134].all AV.isCell = true then
 (if Int.ofNat 0 ≤ Int.ofNat 13 ∧ 13 < (((nB 65515 k).toNat : Nat) : Int) then
 (if 13 + [b8 221].length ≤ (putCells (putCells (putCells (zrep (nB 65515 k).toNat [b8 0]) 12 [b8 8]) 13 [b8 0]) 12 [b8 134]).length ∧ [b8 221].all AV.isCell = true then
 (if cdec (Says eMk6 [AV.agg (kSrc true 3), AV.agg (kDst true), b8 (intV (some (b8 17))), int i64 (i64.wrap (i64.wrap (nB 65515 k - 14) - 40))] (hEBTF10 pad k b M) (AV.tup [AV.sl (some (2, 0)) (b :: M).length 0 false, AV.bool true]) (hEBTF11 pad k b M)) = true then
 (if Int.ofNat 0 ≤ Int.ofNat 14 ∧ 14 ≤ (((nB 65515 k).toNat : Nat) : Int) then
 (if 0 + (b :: M).length.min ((nB 65515 k).toNat - 14) * 1 ≤ (bys (b :: M)).length then
 (if (List.take ((b :: M).length.min ((nB 65515 k).toNat - 14) * 1) (bys (b :: M))).length = 0 then
 (if Int.ofNat 0 ≤ Int.ofNat 58 ∧ 58 < (((nB 65515 k).toNat : Nat) : Int) then
 (if 58 + [b8 0].length ≤ (putCells (putCells (putCells (putCells (zrep (nB 65515 k).toNat [b8 0]) 12 [b8 8]) 13 [b8 0]) 12 [b8 134]) 13 [b8 221]).length ∧ [b8 0].all AV.isCell = true then
 (if Int.ofNat 0 ≤ Int.ofNat 59 ∧ 59 < (((nB 65515 k).toNat : Nat) : Int) then
 (if 59 + [b8 8].length ≤ (putCells (putCells (putCells (putCells (putCells (zrep (nB 65515 k).toNat [b8 0]) 12 [b8 8]) 13 [b8 0]) 12 [b8 134]) 13 [b8 221]) 58 [b8 0]).length ∧ [b8 8].all AV.isCell = true then
 (if cdec
 (InR
 [AV.sl (some (1, 0)) (nB 65515 k).toNat
 (match true with
 | true => 0
 | false => (i64.wrap (i64.wrap (i64.wrap (65535 - 20) + k) - 2)).toNat)
 false,
 AV.agg (dAdr false 150), AV.agg (dAdr true 150), AV.agg (dAdr false 1)]
 (hEBTF12 pad k b M) (AV.tup [AV.sl (some (7, 0)) 0 0 false, int i64 9]) (hEBTF13 pad k b M)) =
 true then
 (if decide (i64.wrap (nB 65515 k + 20) > 65535) = true then
 K (AV.bool true)
 else none) else none) else none) else none) else none) else none)
 else (if 0 < (nB 65515 k).toNat - 14 then
 (if 14 + (List.take ((b :: M).length.min ((nB 65515 k).toNat - 14) * 1) (bys (b :: M))).length ≤ (putCells (putCells (putCells (putCells (zrep (nB 65515 k).toNat [b8 0]) 12 [b8 8]) 13 [b8 0]) 12 [b8 134]) 13 [b8 221]).length ∧ (List.take ((b :: M).length.min ((nB 65515 k).toNat - 14) * 1) (bys (b :: M))).all AV.isCell = true then
 (if Int.ofNat 0 ≤ Int.ofNat 58 ∧ 58 < (((nB 65515 k).toNat : Nat) : Int) then
 (if 58 + [b8 0].length ≤ (putCells (putCells (putCells (putCells (putCells (zrep (nB 65515 k).toNat [b8 0]) 12 [b8 8]) 13 [b8 0]) 12 [b8 134]) 13 [b8 221]) 14 (List.take ((b :: M).length.min ((nB 65515 k).toNat - 14) * 1) (bys (b :: M)))).length ∧ [b8 0].all AV.isCell = true then
 (if Int.ofNat 0 ≤ Int.ofNat 59 ∧ 59 < (((nB 65515 k).toNat : Nat) : Int) then
 (if 59 + [b8 8].length ≤ (putCells (putCells (putCells (putCells (putCells (putCells (zrep (nB 65515 k).toNat [b8 0]) 12 [b8 8]) 13 [b8 0]) 12 [b8 134]) 13 [b8 221]) 14 (List.take ((b :: M).length.min ((nB 65515 k).toNat - 14) * 1) (bys (b :: M)))) 58 [b8 0]).length ∧ [b8 8].all AV.isCell = true then
 (if cdec
 (InR
 [AV.sl (some (1, 0)) (nB 65515 k).toNat
 (match true with
 | true => 0
 | false => (i64.wrap (i64.wrap (i64.wrap (65535 - 20) + k) - 2)).toNat)
 false,
 AV.agg (dAdr false 150), AV.agg (dAdr true 150), AV.agg (dAdr false 1)]
 (hEBTF14 pad k b M) (AV.tup [AV.sl (some (7, 0)) 0 0 false, int i64 9]) (hEBTF13 pad k b M)) =
 true then
 (if decide (i64.wrap (nB 65515 k + 20) > 65535) = true then
 K (AV.bool true)
 else none) else none) else none) else none) else none) else none) else none) else none))
 else none) else none) else none) else none) else none) else none) else none) else none) else none) else none) else none) else none) else none) := by
  kernel_rfl

noncomputable def hEBTF20 (pad k : Int) (b : UInt8) (M O : List UInt8) : AHeap := [cells [b8 17, AV.bool true, b8 10, b8 0, b8 0, b8 3, b8 0, b8 0, b8 0, b8 0, b8 0, b8 0, b8 0, b8 0, b8 0, b8 0, b8 0, b8 0, AV.bool true, b8 192, b8 168, b8 0, b8 1, b8 0, b8 0, b8 0, b8 0, b8 0, b8 0, b8 0, b8 0, b8 0, b8 0, b8 0, b8 0, int u16 1003, int u16 80] 37 Md.own none, cells (putCells (putCells (putCells (putCells (zrep (nB 65515 k).toNat [b8 0]) 12 [b8 8]) 13 [b8 0]) 12 [b8 134]) 13 [b8 221]) 1 Md.own none]
noncomputable def hEBTF21 (pad k : Int) (b : UInt8) (M O : List UInt8) : AHeap := [cells (bys (b :: M)) 1 Md.own none]
noncomputable def hEBTF22 (pad k : Int) (b : UInt8) (M O : List UInt8) : AHeap := [cells [b8 17, AV.bool true, b8 10, b8 0, b8 0, b8 3, b8 0, b8 0, b8 0, b8 0, b8 0, b8 0, b8 0, b8 0, b8 0, b8 0, b8 0, b8 0, AV.bool true, b8 192, b8 168, b8 0, b8 1, b8 0, b8 0, b8 0, b8 0, b8 0, b8 0, b8 0, b8 0, b8 0, b8 0, b8 0, b8 0, int u16 1003, int u16 80] 37 Md.own none, cells (putCells (putCells (putCells (putCells (putCells (putCells (zrep (nB 65515 k).toNat [b8 0]) 12 [b8 8]) 13 [b8 0]) 12 [b8 134]) 13 [b8 221]) 58 [b8 0]) 59 [b8 8]) 1 Md.own none, cells (bys (b :: M)) 1 Md.own none, cells (dAdr false 150) 17 Md.own none, cells (dAdr false 150) 17 Md.own none, cells (dAdr true 150) 17 Md.own none, cells (dAdr true 150) 17 Md.own none]
noncomputable def hEBTF23 (pad k : Int) (b : UInt8) (M O : List UInt8) : AHeap := [cells (bys O) 1 Md.own none]
noncomputable def hEBTF24 (pad k : Int) (b : UInt8) (M O : List UInt8) : AHeap := [cells [b8 17, AV.bool true, b8 10, b8 0, b8 0, b8 3, b8 0, b8 0, b8 0, b8 0, b8 0, b8 0, b8 0, b8 0, b8 0, b8 0, b8 0, b8 0, AV.bool true, b8 192, b8 168, b8 0, b8 1, b8 0, b8 0, b8 0, b8 0, b8 0, b8 0, b8 0, b8 0, b8 0, b8 0, b8 0, b8 0, int u16 1003, int u16 80] 37 Md.own none, cells (putCells (putCells (putCells (putCells (putCells (putCells (putCells (zrep (nB 65515 k).toNat [b8 0]) 12 [b8 8]) 13 [b8 0]) 12 [b8 134]) 13 [b8 221]) 14 (List.take ((b :: M).length.min ((nB 65515 k).toNat - 14) * 1) (bys (b :: M)))) 58 [b8 0]) 59 [b8 8]) 1 Md.own none, cells (bys (b :: M)) 1 Md.own none, cells (dAdr false 150) 17 Md.own none, cells (dAdr false 150) 17 Md.own none, cells (dAdr true 150) 17 Md.own none, cells (dAdr true 150) 17 Md.own none]
theorem nfEBTF2 {R : Type} (pad k : Int) (b : UInt8) (M O : List UInt8) (K : AV → Option R) :
 qrun Try.prog (tEB (b :: M) O (.int .i64 0)) 100 5 [(23, .int .i64 k), (105, .bool false), (118, .bool true), (126, .bool true)] [] 5 [.bool true, .bool false, .int .i64 pad] [] (fun v _ => K v) =
 (if i64 = i64 ∧ pad % 5 = k then
 (if 1 = 1 ∧ 0 < 1 ∧ 0 ≤ nB 65515 k ∧ nB 65515 k ≤ nB 65515 k ∧ nB 65515 k ≤ 70368744177664 ∧ 1 * nB 65515 k ≤ 281474976710656 then
 (if Int.ofNat 0 ≤ Int.ofNat 12 ∧ 12 < (((nB 65515 k).toNat : Nat) : Int) then
 (if 12 + [b8 8].length ≤ (zrep (nB 65515 k).toNat [b8 0]).length ∧ [b8 8].all AV.isCell = true then
 (if Int.ofNat 0 ≤ Int.ofNat 13 ∧ 13 < (((nB 65515 k).toNat : Nat) : Int) then
 (if 13 + [b8 0].length ≤ (putCells (zrep (nB 65515 k).toNat [b8 0]) 12 [b8 8]).length ∧ [b8 0].all AV.isCell = true then
 (if Int.ofNat 0 ≤ Int.ofNat 12 ∧ 12 < (((nB 65515 k).toNat : Nat) : Int) then
 (if 12 + [b8 134].length ≤ (putCells (putCells (zrep (nB 65515 k).toNat [b8 0]) 12 [b8 8]) 13 [b8 0]).length ∧ [b8 134].all AV.isCell = true then
 (if Int.ofNat 0 ≤ Int.ofNat 13 ∧ 13 < (((nB 65515 k).toNat : Nat) : Int) then
 (if 13 + [b8 221].length ≤ (putCells (putCells (putCells (zrep (nB 65515 k).toNat [b8 0]) 12 [b8 8]) 13 [b8 0]) 12 [b8 134]).length ∧ [b8 221].all AV.isCell = true then
 (if cdec (Says eMk6 [AV.agg (kSrc true 3), AV.agg (kDst true), b8 (intV (some (b8 17))), int i64 (i64.wrap (i64.wrap (nB 65515 k - 14) - 40))] (hEBTF20 pad k b M O) (AV.tup [AV.sl (some (2, 0)) (b :: M).length 0 false, AV.bool true]) (hEBTF21 pad k b M O)) = true then
 (if Int.ofNat 0 ≤ Int.ofNat 14 ∧ 14 ≤ (((nB 65515 k).toNat : Nat) : Int) then
 (if 0 + (b :: M).length.min ((nB 65515 k).toNat - 14) * 1 ≤ (bys (b :: M)).length then
 (if (List.take ((b :: M).length.min ((nB 65515 k).toNat - 14) * 1) (bys (b :: M))).length = 0 then
 (if Int.ofNat 0 ≤ Int.ofNat 58 ∧ 58 < (((nB 65515 k).toNat : Nat) : Int) then
 (if 58 + [b8 0].length ≤ (putCells (putCells (putCells (putCells (zrep (nB 65515 k).toNat [b8 0]) 12 [b8 8]) 13 [b8 0]) 12 [b8 134]) 13 [b8 221]).length ∧ [b8 0].all AV.isCell = true then
 (if Int.ofNat 0 ≤ Int.ofNat 59 ∧ 59 < (((nB 65515 k).toNat : Nat) : Int) then
 (if 59 + [b8 8].length ≤ (putCells (putCells (putCells (putCells (putCells (zrep (nB 65515 k).toNat [b8 0]) 12 [b8 8]) 13 [b8 0]) 12 [b8 134]) 13 [b8 221]) 58 [b8 0]).length ∧ [b8 8].all AV.isCell = true then
 (if cdec
 (InR
 [AV.sl (some (1, 0)) (nB 65515 k).toNat
 (match true with
 | true => 0
 | false => (i64.wrap (i64.wrap (i64.wrap (65535 - 20) + k) - 2)).toNat)
 false,
 AV.agg (dAdr false 150), AV.agg (dAdr true 150), AV.agg (dAdr false 1)]
 (hEBTF22 pad k b M O) (AV.tup [AV.sl (some (7, 0)) O.length 0 false, int i64 0]) (hEBTF23 pad k b M O)) =
 true then
 (if decide (i64.wrap (nB 65515 k + 20) > 65535) = false then
 (if ((O.length : Int) == i64.wrap (nB 65515 k + 20)) = true then
 K (AV.bool true)
 else none) else none) else none) else none) else none) else none) else none)
 else (if 0 < (nB 65515 k).toNat - 14 then
 (if 14 + (List.take ((b :: M).length.min ((nB 65515 k).toNat - 14) * 1) (bys (b :: M))).length ≤ (putCells (putCells (putCells (putCells (zrep (nB 65515 k).toNat [b8 0]) 12 [b8 8]) 13 [b8 0]) 12 [b8 134]) 13 [b8 221]).length ∧ (List.take ((b :: M).length.min ((nB 65515 k).toNat - 14) * 1) (bys (b :: M))).all AV.isCell = true then
 (if Int.ofNat 0 ≤ Int.ofNat 58 ∧ 58 < (((nB 65515 k).toNat : Nat) : Int) then
 (if 58 + [b8 0].length ≤ (putCells (putCells (putCells (putCells (putCells (zrep (nB 65515 k).toNat [b8 0]) 12 [b8 8]) 13 [b8 0]) 12 [b8 134]) 13 [b8 221]) 14 (List.take ((b :: M).length.min ((nB 65515 k).toNat - 14) * 1) (bys (b :: M)))).length ∧ [b8 0].all AV.isCell = true then
 (if Int.ofNat 0 ≤ Int.ofNat 59 ∧ 59 < (((nB 65515 k).toNat : Nat) : Int) then
 (if 59 + [b8 8].length ≤ (putCells (putCells (putCells (putCells (putCells (putCells (zrep (nB 65515 k).toNat [b8 0]) 12 [b8 8]) 13 [b8 0]) 12 [b8 134]) 13 [b8 221]) 14 (List.take ((b :: M).length.min ((nB 65515 k).toNat - 14) * 1) (bys (b :: M)))) 58 [b8 0]).length ∧ [b8 8].all AV.isCell = true then
 (if cdec
 (InR
 [AV.sl (some (1, 0)) (nB 65515 k).toNat
 (match true with
 | true => 0
 | false => (i64.wrap (i64.wrap (i64.wrap (65535 - 20) + k) - 2)).toNat)
 false,
 AV.agg (dAdr false 150), AV.agg (dAdr true 150), AV.agg (dAdr false 1)]
 (hEBTF24 pad k b M O) (AV.tup [AV.sl (some (7, 0)) O.length 0 false, int i64 0]) (hEBTF23 pad k b M O)) =
 true then
 (if decide (i64.wrap (nB 65515 k + 20) > 65535) = false then
 (if ((O.length : Int) == i64.wrap (nB 65515 k + 20)) = true then
 K (AV.bool true)
 else none) else none) else none) else none) else none) else none) else none) else none) else none))
 else none) else none) else none) else none) else none) else none) else none) else none) else none) else none) else none) else none) else none) := by
  kernel_rfl

noncomputable def hEBTT10 (pad k : Int) (b : UInt8) (M : List UInt8) : AHeap := [cells [b8 17, AV.bool true, b8 10, b8 0, b8 0, b8 3, b8 0, b8 0, b8 0, b8 0, b8 0, b8 0, b8 0, b8 0, b8 0, b8 0, b8 0, b8 0, AV.bool true, b8 192, b8 168, b8 0, b8 1, b8 0, b8 0, b8 0, b8 0, b8 0, b8 0, b8 0, b8 0, b8 0, b8 0, b8 0, b8 0, int u16 1003, int u16 80] 37 Md.own none, cells (putCells (putCells (putCells (putCells (zrep (nB 65495 k).toNat [b8 0]) 12 [b8 8]) 13 [b8 0]) 12 [b8 134]) 13 [b8 221]) 1 Md.own none]
noncomputable def hEBTT11 (pad k : Int) (b : UInt8) (M : List UInt8) : AHeap := [cells (bys (b :: M)) 1 Md.own none]
noncomputable def hEBTT12 (pad k : Int) (b : UInt8) (M : List UInt8) : AHeap := [cells [b8 17, AV.bool true, b8 10, b8 0, b8 0, b8 3, b8 0, b8 0, b8 0, b8 0, b8 0, b8 0, b8 0, b8 0, b8 0, b8 0, b8 0, b8 0, AV.bool true, b8 192, b8 168, b8 0, b8 1, b8 0, b8 0, b8 0, b8 0, b8 0, b8 0, b8 0, b8 0, b8 0, b8 0, b8 0, b8 0, int u16 1003, int u16 80] 37 Md.own none, cells (putCells (putCells (putCells (putCells (putCells (putCells (zrep (nB 65495 k).toNat [b8 0]) 12 [b8 8]) 13 [b8 0]) 12 [b8 134]) 13 [b8 221]) 58 [b8 0]) 59 [b8 8]) 1 Md.own none, cells (bys (b :: M)) 1 Md.own none, cells (dAdr false 150) 17 Md.own none, cells (dAdr false 150) 17 Md.own none, cells (dAdr true 150) 17 Md.own none, cells (dAdr true 150) 17 Md.own none]
noncomputable def hEBTT13 (pad k : Int) (b : UInt8) (M : List UInt8) : AHeap := [cells [] 1 Md.own none]
noncomputable def hEBTT14 (pad k : Int) (b : UInt8) (M : List UInt8) : AHeap := [cells [b8 17, AV.bool true, b8 10, b8 0, b8 0, b8 3, b8 0, b8 0, b8 0, b8 0, b8 0, b8 0, b8 0, b8 0, b8 0, b8 0, b8 0, b8 0, AV.bool true, b8 192, b8 168, b8 0, b8 1, b8 0, b8 0, b8 0, b8 0, b8 0, b8 0, b8 0, b8 0, b8 0, b8 0, b8 0, b8 0, int u16 1003, int u16 80] 37 Md.own none, cells (putCells (putCells (putCells (putCells (putCells (putCells (putCells (zrep (nB 65495 k).toNat [b8 0]) 12 [b8 8]) 13 [b8 0]) 12 [b8 134]) 13 [b8 221]) 14 (List.take ((b :: M).length.min ((nB 65495 k).toNat - 14) * 1) (bys (b :: M)))) 58 [b8 0]) 59 [b8 8]) 1 Md.own none, cells (bys (b :: M)) 1 Md.own none, cells (dAdr false 150) 17 Md.own none, cells (dAdr false 150) 17 Md.own none, cells (dAdr true 150) 17 Md.own none, cells (dAdr true 150) 17 Md.own none]
theorem nfEBTT1 {R : Type} (pad k : Int) (b : UInt8) (M : List UInt8) (K : AV → Option R) :
 qrun Try.prog (tEB (b :: M) [] (.int .i64 9)) 100 5 [(23, .int .i64 k), (105, .bool true), (108, .bool true), (113, .bool true)] [] 5 [.bool true, .bool true, .int .i64 pad] [] (fun v _ => K v) =
 (if i64 = i64 ∧ pad % 5 = k then
 (if 1 = 1 ∧ 0 < 1 ∧ 0 ≤ nB 65495 k ∧ nB 65495 k ≤ nB 65495 k ∧ nB 65495 k ≤ 70368744177664 ∧ 1 * nB 65495 k ≤ 281474976710656 then
 (if Int.ofNat 0 ≤ Int.ofNat 12 ∧ 12 < (((nB 65495 k).toNat : Nat) : Int) then
 (if 12 + [b8 8].length ≤ (zrep (nB 65495 k).toNat [b8 0]).length ∧ [b8 8].all AV.isCell = true then
 (if Int.ofNat 0 ≤ Int.ofNat 13 ∧ 13 < (((nB 65495 k).toNat : Nat) : Int) then
 (if 13 + [b8 0].length ≤ (putCells (zrep (nB 65495 k).toNat [b8 0]) 12 [b8 8]).length ∧ [b8 0].all AV.isCell = true then
 (if Int.ofNat 0 ≤ Int.ofNat 12 ∧ 12 < (((nB 65495 k).toNat : Nat) : Int) then
 (if 12 + [b8 134].length ≤ (putCells (putCells (zrep (nB 65495 k).toNat [b8 0]) 12 [b8 8]) 13 [b8 0]).length ∧ [b8 134].all AV.isCell = true then
 (if Int.ofNat 0 ≤ Int.ofNat 13 ∧ 13 < (((nB 65495 k).toNat : Nat) : Int) then
 (if 13 + [b8 221].length ≤ (putCells (putCells (putCells (zrep (nB 65495 k).toNat [b8 0]) 12 [b8 8]) 13 [b8 0]) 12 [b8 134]).length ∧ [b8 221].all AV.isCell = true then
 (if cdec (Says eMk6 [AV.agg (kSrc true 3), AV.agg (kDst true), b8 (intV (some (b8 17))), int i64 (i64.wrap (i64.wrap (nB 65495 k - 14) - 40))] (hEBTT10 pad k b M) (AV.tup [AV.sl (some (2, 0)) (b :: M).length 0 false, AV.bool true]) (hEBTT11 pad k b M)) = true then
 (if Int.ofNat 0 ≤ Int.ofNat 14 ∧ 14 ≤ (((nB 65495 k).toNat : Nat) : Int) then
 (if 0 + (b :: M).length.min ((nB 65495 k).toNat - 14) * 1 ≤ (bys (b :: M)).length then
 (if (List.take ((b :: M).length.min ((nB 65495 k).toNat - 14) * 1) (bys (b :: M))).length = 0 then
 (if Int.ofNat 0 ≤ Int.ofNat 58 ∧ 58 < (((nB 65495 k).toNat : Nat) : Int) then
 (if 58 + [b8 0].length ≤ (putCells (putCells (putCells (putCells (zrep (nB 65495 k).toNat [b8 0]) 12 [b8 8]) 13 [b8 0]) 12 [b8 134]) 13 [b8 221]).length ∧ [b8 0].all AV.isCell = true then
 (if Int.ofNat 0 ≤ Int.ofNat 59 ∧ 59 < (((nB 65495 k).toNat : Nat) : Int) then
 (if 59 + [b8 8].length ≤ (putCells (putCells (putCells (putCells (putCells (zrep (nB 65495 k).toNat [b8 0]) 12 [b8 8]) 13 [b8 0]) 12 [b8 134]) 13 [b8 221]) 58 [b8 0]).length ∧ [b8 8].all AV.isCell = true then
 (if cdec
 (InR
 [AV.sl (some (1, 0)) (nB 65495 k).toNat
 (match true with
 | true => 0
 | false => (i64.wrap (i64.wrap (i64.wrap (65535 - 40) + k) - 2)).toNat)
 false,
 AV.agg (dAdr false 150), AV.agg (dAdr true 150), AV.agg (dAdr true 1)]
 (hEBTT12 pad k b M) (AV.tup [AV.sl (some (7, 0)) 0 0 false, int i64 9]) (hEBTT13 pad k b M)) =
 true then
 (if decide (i64.wrap (nB 65495 k + 40) > 65535) = true then
 K (AV.bool true)
 else none) else none) else none) else none) else none) else none)
 else (if 0 < (nB 65495 k).toNat - 14 then
 (if 14 + (List.take ((b :: M).length.min ((nB 65495 k).toNat - 14) * 1) (bys (b :: M))).length ≤ (putCells (putCells (putCells (putCells (zrep (nB 65495 k).toNat [b8 0]) 12 [b8 8]) 13 [b8 0]) 12 [b8 134]) 13 [b8 221]).length ∧ (List.take ((b :: M).length.min ((nB 65495 k).toNat - 14) * 1) (bys (b :: M))).all AV.isCell = true then
 (if Int.ofNat 0 ≤ Int.ofNat 58 ∧ 58 < (((nB 65495 k).toNat : Nat) : Int) then
 (if 58 + [b8 0].length ≤ (putCells (putCells (putCells (putCells (putCells (zrep (nB 65495 k).toNat [b8 0]) 12 [b8 8]) 13 [b8 0]) 12 [b8 134]) 13 [b8 221]) 14 (List.take ((b :: M).length.min ((nB 65495 k).toNat - 14) * 1) (bys (b :: M)))).length ∧ [b8 0].all AV.isCell = true then
 (if Int.ofNat 0 ≤ Int.ofNat 59 ∧ 59 < (((nB 65495 k).toNat : Nat) : Int) then
 (if 59 + [b8 8].length ≤ (putCells (putCells (putCells (putCells (putCells (putCells (zrep (nB 65495 k).toNat [b8 0]) 12 [b8 8]) 13 [b8 0]) 12 [b8 134]) 13 [b8 221]) 14 (List.take ((b :: M).length.min ((nB 65495 k).toNat - 14) * 1) (bys (b :: M)))) 58 [b8 0]).length ∧ [b8 8].all AV.isCell = true then
 (if cdec
 (InR
 [AV.sl (some (1, 0)) (nB 65495 k).toNat
 (match true with
 | true => 0
 | false => (i64.wrap (i64.wrap (i64.wrap (65535 - 40) + k) - 2)).toNat)
 false,
 AV.agg (dAdr false 150), AV.agg (dAdr true 150), AV.agg (dAdr true 1)]
 (hEBTT14 pad k b M) (AV.tup [AV.sl (some (7, 0)) 0 0 false, int i64 9]) (hEBTT13 pad k b M)) =
 true then
 (if decide (i64.wrap (nB 65495 k + 40) > 65535) = true then
 K (AV.bool true)
 else none) else none) else none) else none) else none) else none) else none) else none))
 else none) else none) else none) else none) else none) else none) else none) else none) else none) else none) else none) else none) else none) := by
  kernel_rfl

noncomputable def hEBTT20 (pad k : Int) (b : UInt8) (M O : List UInt8) : AHeap := [cells [b8 17, AV.bool true, b8 10, b8 0, b8 0, b8 3, b8 0, b8 0, b8 0, b8 0, b8 0, b8 0, b8 0, b8 0, b8 0, b8 0, b8 0, b8 0, AV.bool true, b8 192, b8 168, b8 0, b8 1, b8 0, b8 0, b8 0, b8 0, b8 0, b8 0, b8 0, b8 0, b8 0, b8 0, b8 0, b8 0, int u16 1003, int u16 80] 37 Md.own none, cells (putCells (putCells (putCells (putCells (zrep (nB 65495 k).toNat [b8 0]) 12 [b8 8]) 13 [b8 0]) 12 [b8 134]) 13 [b8 221]) 1 Md.own none]
noncomputable def hEBTT21 (pad k : Int) (b : UInt8) (M O : List UInt8) : AHeap := [cells (bys (b :: M)) 1 Md.own none]
noncomputable def hEBTT22 (pad k : Int) (b : UInt8) (M O : List UInt8) : AHeap := [cells [b8 17, AV.bool true, b8 10, b8 0, b8 0, b8 3, b8 0, b8 0, b8 0, b8 0, b8 0, b8 0, b8 0, b8 0, b8 0, b8 0, b8 0, b8 0, AV.bool true, b8 192, b8 168, b8 0, b8 1, b8 0, b8 0, b8 0, b8 0, b8 0, b8 0, b8 0, b8 0, b8 0, b8 0, b8 0, b8 0, int u16 1003, int u16 80] 37 Md.own none, cells (putCells (putCells (putCells (putCells (putCells (putCells (zrep (nB 65495 k).toNat [b8 0]) 12 [b8 8]) 13 [b8 0]) 12 [b8 134]) 13 [b8 221]) 58 [b8 0]) 59 [b8 8]) 1 Md.own none, cells (bys (b :: M)) 1 Md.own none, cells (dAdr false 150) 17 Md.own none, cells (dAdr false 150) 17 Md.own none, cells (dAdr true 150) 17 Md.own none, cells (dAdr true 150) 17 Md.own none]
noncomputable def hEBTT23 (pad k : Int) (b : UInt8) (M O : List UInt8) : AHeap := [cells (bys O) 1 Md.own none]
noncomputable def hEBTT24 (pad k : Int) (b : UInt8) (M O : List UInt8) : AHeap := [cells [b8 17, AV.bool true, b8 10, b8 0, b8 0, b8 3, b8 0, b8 0, b8 0, b8 0, b8 0, b8 0, b8 0, b8 0, b8 0, b8 0, b8 0, b8 0, AV.bool true, b8 192, b8 168, b8 0, b8 1, b8 0, b8 0, b8 0, b8 0, b8 0, b8 0, b8 0, b8 0, b8 0, b8 0, b8 0, b8 0, int u16 1003, int u16 80] 37 Md.own none, cells (putCells (putCells (putCells (putCells (putCells (putCells (putCells (zrep (nB 65495 k).toNat [b8 0]) 12 [b8 8]) 13 [b8 0]) 12 [b8 134]) 13 [b8 221]) 14 (List.take ((b :: M).length.min ((nB 65495 k).toNat - 14) * 1) (bys (b :: M)))) 58 [b8 0]) 59 [b8 8]) 1 Md.own none, cells (bys (b :: M)) 1 Md.own none, cells (dAdr false 150) 17 Md.own none, cells (dAdr false 150) 17 Md.own none, cells (dAdr true 150) 17 Md.own none, cells (dAdr true 150) 17 Md.own none]
theorem nfEBTT2 {R : Type} (pad k : Int) (b : UInt8) (M O : List UInt8) (K : AV → Option R) :
 qrun Try.prog (tEB (b :: M) O (.int .i64 0)) 100 5 [(23, .int .i64 k), (105, .bool false), (118, .bool true), (126, .bool true)] [] 5 [.bool true, .bool true, .int .i64 pad] [] (fun v _ => K v) =
 (if i64 = i64 ∧ pad % 5 = k then
 (if 1 = 1 ∧ 0 < 1 ∧ 0 ≤ nB 65495 k ∧ nB 65495 k ≤ nB 65495 k ∧ nB 65495 k ≤ 70368744177664 ∧ 1 * nB 65495 k ≤ 281474976710656 then
 (if Int.ofNat 0 ≤ Int.ofNat 12 ∧ 12 < (((nB 65495 k).toNat : Nat) : Int) then
 (if 12 + [b8 8].length ≤ (zrep (nB 65495 k).toNat [b8 0]).length ∧ [b8 8].all AV.isCell = true then
 (if Int.ofNat 0 ≤ Int.ofNat 13 ∧ 13 < (((nB 65495 k).toNat : Nat) : Int) then
 (if 13 + [b8 0].length ≤ (putCells (zrep (nB 65495 k).toNat [b8 0]) 12 [b8 8]).length ∧ [b8 0].all AV.isCell = true then
 (if Int.ofNat 0 ≤ Int.ofNat 12 ∧ 12 < (((nB 65495 k).toNat : Nat) : Int) then
 (if 12 + [b8 134].length ≤ (putCells (putCells (zrep (nB 65495 k).toNat [b8 0]) 12 [b8 8]) 13 [b8 0]).length ∧ [b8 134].all AV.isCell = true then
 (if Int.ofNat 0 ≤ Int.ofNat 13 ∧ 13 < (((nB 65495 k).toNat : Nat) : Int) then
 (if 13 + [b8 221].length ≤ (putCells (putCells (putCells (zrep (nB 65495 k).toNat [b8 0]) 12 [b8 8]) 13 [b8 0]) 12 [b8 134]).length ∧ [b8 221].all AV.isCell = true then
 (if cdec (Says eMk6 [AV.agg (kSrc true 3), AV.agg (kDst true), b8 (intV (some (b8 17))), int i64 (i64.wrap (i64.wrap (nB 65495 k - 14) - 40))] (hEBTT20 pad k b M O) (AV.tup [AV.sl (some (2, 0)) (b :: M).length 0 false, AV.bool true]) (hEBTT21 pad k b M O)) = true then
 (if Int.ofNat 0 ≤ Int.ofNat 14 ∧ 14 ≤ (((nB 65495 k).toNat : Nat) : Int) then
 (if 0 + (b :: M).length.min ((nB 65495 k).toNat - 14) * 1 ≤ (bys (b :: M)).length then
 (if (List.take ((b :: M).length.min ((nB 65495 k).toNat - 14) * 1) (bys (b :: M))).length = 0 then
 (if Int.ofNat 0 ≤ Int.ofNat 58 ∧ 58 < (((nB 65495 k).toNat : Nat) : Int) then
 (if 58 + [b8 0].length ≤ (putCells (putCells (putCells (putCells (zrep (nB 65495 k).toNat [b8 0]) 12 [b8 8]) 13 [b8 0]) 12 [b8 134]) 13 [b8 221]).length ∧ [b8 0].all AV.isCell = true then
 (if Int.ofNat 0 ≤ Int.ofNat 59 ∧ 59 < (((nB 65495 k).toNat : Nat) : Int) then
 (if 59 + [b8 8].length ≤ (putCells (putCells (putCells (putCells (putCells (zrep (nB 65495 k).toNat [b8 0]) 12 [b8 8]) 13 [b8 0]) 12 [b8 134]) 13 [b8 221]) 58 [b8 0]).length ∧ [b8 8].all AV.isCell = true then
 (if cdec
 (InR
 [AV.sl (some (1, 0)) (nB 65495 k).toNat
 (match true with
 | true => 0
 | false => (i64.wrap (i64.wrap (i64.wrap (65535 - 40) + k) - 2)).toNat)
 false,
 AV.agg (dAdr false 150), AV.agg (dAdr true 150), AV.agg (dAdr true 1)]
 (hEBTT22 pad k b M O) (AV.tup [AV.sl (some (7, 0)) O.length 0 false, int i64 0]) (hEBTT23 pad k b M O)) =
 true then
 (if decide (i64.wrap (nB 65495 k + 40) > 65535) = false then
 (if ((O.length : Int) == i64.wrap (nB 65495 k + 40)) = true then
 K (AV.bool true)
 else none) else none) else none) else none) else none) else none) else none)
 else (if 0 < (nB 65495 k).toNat - 14 then
 (if 14 + (List.take ((b :: M).length.min ((nB 65495 k).toNat - 14) * 1) (bys (b :: M))).length ≤ (putCells (putCells (putCells (putCells (zrep (nB 65495 k).toNat [b8 0]) 12 [b8 8]) 13 [b8 0]) 12 [b8 134]) 13 [b8 221]).length ∧ (List.take ((b :: M).length.min ((nB 65495 k).toNat - 14) * 1) (bys (b :: M))).all AV.isCell = true then
 (if Int.ofNat 0 ≤ Int.ofNat 58 ∧ 58 < (((nB 65495 k).toNat : Nat) : Int) then
 (if 58 + [b8 0].length ≤ (putCells (putCells (putCells (putCells (putCells (zrep (nB 65495 k).toNat [b8 0]) 12 [b8 8]) 13 [b8 0]) 12 [b8 134]) 13 [b8 221]) 14 (List.take ((b :: M).length.min ((nB 65495 k).toNat - 14) * 1) (bys (b :: M)))).length ∧ [b8 0].all AV.isCell = true then
 (if Int.ofNat 0 ≤ Int.ofNat 59 ∧ 59 < (((nB 65495 k).toNat : Nat) : Int) then
 (if 59 + [b8 8].length ≤ (putCells (putCells (putCells (putCells (putCells (putCells (zrep (nB 65495 k).toNat [b8 0]) 12 [b8 8]) 13 [b8 0]) 12 [b8 134]) 13 [b8 221]) 14 (List.take ((b :: M).length.min ((nB 65495 k).toNat - 14) * 1) (bys (b :: M)))) 58 [b8 0]).length ∧ [b8 8].all AV.isCell = true then
 (if cdec
 (InR
 [AV.sl (some (1, 0)) (nB 65495 k).toNat
 (match true with
 | true => 0
 | false => (i64.wrap (i64.wrap (i64.wrap (65535 - 40) + k) - 2)).toNat)
 false,
 AV.agg (dAdr false 150), AV.agg (dAdr true 150), AV.agg (dAdr true 1)]
 (hEBTT24 pad k b M O) (AV.tup [AV.sl (some (7, 0)) O.length 0 false, int i64 0]) (hEBTT23 pad k b M O)) =
 true then
 (if decide (i64.wrap (nB 65495 k + 40) > 65535) = false then
 (if ((O.length : Int) == i64.wrap (nB 65495 k + 40)) = true then
 K (AV.bool true)
 else none) else none) else none) else none) else none) else none) else none) else none) else none))
 else none) else none) else none) else none) else none) else none) else none) else none) else none) else none) else none) else none) else none) := by
  kernel_rfl


end Go.Proofs.Ytjkkhbeidhpghaa.L
