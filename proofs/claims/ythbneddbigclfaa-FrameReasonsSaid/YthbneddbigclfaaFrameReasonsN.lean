/- FrameReasons' run: what the kernel makes of it. -/
import Derived.Test.YthbneddbigclfaaFGood
import Derived.Test.YthbneddbigclfaaFrmAll
import Derived.Test.YthbneddbigclfaaCutKit
import Derived.Test.YthbneddbigclfaaBuild
import Derived.Test.YthbneddbigclfaaAwake8
set_option autoImplicit false
set_option maxRecDepth 100000
set_option linter.unusedVariables false
set_option linter.unusedSimpArgs false
namespace Go.Proofs.Ythbneddbigclfaa.L
open Go Go.Abs
open Go.IntKind
open Go.Abs.AV (int)
open Go.Abs.ABlk (cells)

noncomputable def tFR (F : List UInt8) (v : AV) (g : Bool) : Tbl := [(17, entF eKey), (12, entF eRound), (18, entF (eRel BuildR0 [(1, slB 1 F, [ownB F])])), (9, entF (eSay eFrR [(2, v, [])])), (13, entF (eSay eGoodF [(3, .bool g, [])])), (8, entF eAwake)]
theorem tFROk (F : List UInt8) (v : AV) (g : Bool) : ∀ f E, (tFR F v g).find f = some E → SoundE Try.prog f E := find_cons sKey (find_cons sRound (find_cons (sBuild0 _) (find_cons (sSay sPRead _) (find_cons (sSay sFGood _) (find_cons sAwake (find_nil _))))))
noncomputable def hFR00 (n k A S E : Int) (F : List UInt8) : AHeap := [cells [int u8 97, int u8 98, int u8 99] 1 Md.ro none]
noncomputable def hFR01 (n k A S E : Int) (F : List UInt8) : AHeap := [cells (bys F) 1 Md.own none]
noncomputable def hFR02 (n k A S E : Int) (F : List UInt8) : AHeap := [cells [int u8 97, int u8 98, int u8 99] 1 Md.ro none, cells (bys F) 1 Md.own none]
noncomputable def hFR03 (n k A S E : Int) (F : List UInt8) : AHeap := []
theorem nfFR0 {R : Type} (n k A S E : Int) (F : List UInt8) (K : AV → Option R) :
 qrun Try.prog (tFR F (.tup [.agg (viewOf false A S E 6 (kSrc false n) (kDst false) (kport n) 80 0), .int .i64 0]) false) 100 4 [(15, .int .i64 0), (75, .bool true), (78, .bool true), (89, .bool true)] [] 7 [.int .i64 n, .int .i64 k] [] (fun v _ => K v) =
 (if cdec (BuildR0 [AV.agg [int u8 6, AV.bool false, int u8 10, int u8 (kb1 n), int u8 (kb2 n), int u8 (kb3 n), int u8 0, int u8 0, int u8 0, int u8 0, int u8 0, int u8 0, int u8 0, int u8 0, int u8 0, int u8 0, int u8 0, int u8 0, AV.bool false, int u8 192, int u8 168, int u8 0, int u8 1, int u8 0, int u8 0, int u8 0, int u8 0, int u8 0, int u8 0, int u8 0, int u8 0, int u8 0, int u8 0, int u8 0, int u8 0, int u16 (kport n), int u16 80], int u8 0, AV.sl (some (0, 0)) 3 0 false, AV.bool false, AV.bool false, int i64 0] (hFR00 n k A S E F) (AV.sl (some (1, 0)) F.length 0 false) (hFR01 n k A S E F)) = true then
 (if i64 = i64 ∧ k % 9 = 0 then
 (if cdec (Says eFrR [AV.sl (some (1, 0)) F.length 0 false] (hFR02 n k A S E F) (AV.tup [AV.agg [AV.bool false, int i64 A, int i64 S, int i64 E, int u8 6, AV.bool false, int u8 10, int u8 (kb1 n), int u8 (kb2 n), int u8 (kb3 n), int u8 0, int u8 0, int u8 0, int u8 0, int u8 0, int u8 0, int u8 0, int u8 0, int u8 0, int u8 0, int u8 0, int u8 0, AV.bool false, int u8 192, int u8 168, int u8 0, int u8 1, int u8 0, int u8 0, int u8 0, int u8 0, int u8 0, int u8 0, int u8 0, int u8 0, int u8 0, int u8 0, int u8 0, int u8 0, int u16 (kport n), int u16 80, int u8 0], int i64 0]) (hFR03 n k A S E F)) = true then
 K (AV.bool true)
 else none) else none) else none) := by
  kernel_rfl

noncomputable def hFR10 (n k A S E : Int) (F : List UInt8) : AHeap := [cells [int u8 97, int u8 98, int u8 99] 1 Md.ro none]
noncomputable def hFR11 (n k A S E : Int) (F : List UInt8) : AHeap := [cells (bys F) 1 Md.own none]
noncomputable def hFR12 (n k A S E : Int) (F : List UInt8) : AHeap := [cells [int u8 97, int u8 98, int u8 99] 1 Md.ro none, cells (putCells (putCells (bys F) 12 [int u8 8]) 13 [int u8 6]) 1 Md.own none]
noncomputable def hFR13 (n k A S E : Int) (F : List UInt8) : AHeap := []
noncomputable def hFR14 (n k A S E : Int) (F : List UInt8) : AHeap := [cells [int u8 97, int u8 98, int u8 99] 1 Md.ro none, cells (putCells (putCells (bys F) 12 [int u8 8]) 13 [int u8 6]) 1 Md.own none, cells [AV.bool false, int i64 0, int i64 0, int i64 0, int u8 0, AV.bool false, int u8 0, int u8 0, int u8 0, int u8 0, int u8 0, int u8 0, int u8 0, int u8 0, int u8 0, int u8 0, int u8 0, int u8 0, int u8 0, int u8 0, int u8 0, int u8 0, AV.bool false, int u8 0, int u8 0, int u8 0, int u8 0, int u8 0, int u8 0, int u8 0, int u8 0, int u8 0, int u8 0, int u8 0, int u8 0, int u8 0, int u8 0, int u8 0, int u8 0, int u16 0, int u16 0, int u8 0] 42 Md.own none]
theorem nfFR1 {R : Type} (n k A S E : Int) (F : List UInt8) (K : AV → Option R) :
 qrun Try.prog (tFR F (.tup [.agg view0, .int .i64 2]) false) 100 4 [(15, .int .i64 1), (75, .bool true), (78, .bool false), (82, .bool true), (89, .bool true)] [] 7 [.int .i64 n, .int .i64 k] [] (fun v _ => K v) =
 (if cdec (BuildR0 [AV.agg [int u8 6, AV.bool false, int u8 10, int u8 (kb1 n), int u8 (kb2 n), int u8 (kb3 n), int u8 0, int u8 0, int u8 0, int u8 0, int u8 0, int u8 0, int u8 0, int u8 0, int u8 0, int u8 0, int u8 0, int u8 0, AV.bool false, int u8 192, int u8 168, int u8 0, int u8 1, int u8 0, int u8 0, int u8 0, int u8 0, int u8 0, int u8 0, int u8 0, int u8 0, int u8 0, int u8 0, int u8 0, int u8 0, int u16 (kport n), int u16 80], int u8 0, AV.sl (some (0, 0)) 3 0 false, AV.bool false, AV.bool false, int i64 0] (hFR10 n k A S E F) (AV.sl (some (1, 0)) F.length 0 false) (hFR11 n k A S E F)) = true then
 (if i64 = i64 ∧ k % 9 = 1 then
 (if Int.ofNat 0 ≤ Int.ofNat 12 ∧ 12 < (F.length : Int) then
 (if 12 + [int u8 8].length ≤ (bys F).length ∧ [int u8 8].all AV.isCell = true then
 (if Int.ofNat 0 ≤ Int.ofNat 13 ∧ 13 < (F.length : Int) then
 (if 13 + [int u8 6].length ≤ (putCells (bys F) 12 [int u8 8]).length ∧ [int u8 6].all AV.isCell = true then
 (if cdec (Says eFrR [AV.sl (some (1, 0)) F.length 0 false] (hFR12 n k A S E F) (AV.tup [AV.agg view0, int i64 2]) (hFR13 n k A S E F)) = true then
 (if cdec (Says eGoodF [AV.sl (some (1, 0)) F.length 0 false] (hFR14 n k A S E F) (AV.bool false) (hFR13 n k A S E F)) = true then
 K (AV.bool true)
 else none) else none) else none) else none) else none) else none) else none) else none) := by
  kernel_rfl

noncomputable def hFR20 (n k A S E : Int) (F : List UInt8) : AHeap := [cells [int u8 97, int u8 98, int u8 99] 1 Md.ro none]
noncomputable def hFR21 (n k A S E : Int) (F : List UInt8) : AHeap := [cells (bys F) 1 Md.own none]
noncomputable def hFR22 (n k A S E : Int) (F : List UInt8) : AHeap := [cells [int u8 97, int u8 98, int u8 99] 1 Md.ro none, cells (bys F) 1 Md.own none]
noncomputable def hFR23 (n k A S E : Int) (F : List UInt8) : AHeap := []
noncomputable def hFR24 (n k A S E : Int) (F : List UInt8) : AHeap := [cells [int u8 97, int u8 98, int u8 99] 1 Md.ro none, cells (bys F) 1 Md.own none, cells [AV.bool false, int i64 0, int i64 0, int i64 0, int u8 0, AV.bool false, int u8 0, int u8 0, int u8 0, int u8 0, int u8 0, int u8 0, int u8 0, int u8 0, int u8 0, int u8 0, int u8 0, int u8 0, int u8 0, int u8 0, int u8 0, int u8 0, AV.bool false, int u8 0, int u8 0, int u8 0, int u8 0, int u8 0, int u8 0, int u8 0, int u8 0, int u8 0, int u8 0, int u8 0, int u8 0, int u8 0, int u8 0, int u8 0, int u8 0, int u16 0, int u16 0, int u8 0] 42 Md.own none]
theorem nfFR2 {R : Type} (n k A S E : Int) (F : List UInt8) (K : AV → Option R) :
 qrun Try.prog (tFR F (.tup [.agg view0, .int .i64 1]) false) 100 4 [(15, .int .i64 2), (75, .bool true), (78, .bool false), (82, .bool true), (89, .bool true)] [] 7 [.int .i64 n, .int .i64 k] [] (fun v _ => K v) =
 (if cdec (BuildR0 [AV.agg [int u8 6, AV.bool false, int u8 10, int u8 (kb1 n), int u8 (kb2 n), int u8 (kb3 n), int u8 0, int u8 0, int u8 0, int u8 0, int u8 0, int u8 0, int u8 0, int u8 0, int u8 0, int u8 0, int u8 0, int u8 0, AV.bool false, int u8 192, int u8 168, int u8 0, int u8 1, int u8 0, int u8 0, int u8 0, int u8 0, int u8 0, int u8 0, int u8 0, int u8 0, int u8 0, int u8 0, int u8 0, int u8 0, int u16 (kport n), int u16 80], int u8 0, AV.sl (some (0, 0)) 3 0 false, AV.bool false, AV.bool false, int i64 0] (hFR20 n k A S E F) (AV.sl (some (1, 0)) F.length 0 false) (hFR21 n k A S E F)) = true then
 (if i64 = i64 ∧ k % 9 = 2 then
 (if Int.ofNat 0 ≤ Int.ofNat 13 ∧ 13 ≤ (((capOf F.length 0 false) : Nat) : Int) then
 (if cdec (Says eFrR [AV.sl (some (1, 0)) 13 (roomOf F.length 0 0 false 13 false) false] (hFR22 n k A S E F) (AV.tup [AV.agg view0, int i64 1]) (hFR23 n k A S E F)) = true then
 (if cdec (Says eGoodF [AV.sl (some (1, 0)) 13 (roomOf F.length 0 0 false 13 false) false] (hFR24 n k A S E F) (AV.bool false) (hFR23 n k A S E F)) = true then
 K (AV.bool true)
 else none) else none) else none) else none) else none) := by
  kernel_rfl

noncomputable def hFR30 (n k A S E : Int) (F : List UInt8) : AHeap := [cells [int u8 97, int u8 98, int u8 99] 1 Md.ro none]
noncomputable def hFR31 (n k A S E : Int) (F : List UInt8) : AHeap := [cells (bys F) 1 Md.own none]
noncomputable def hFR32 (n k A S E : Int) (F : List UInt8) : AHeap := [cells [int u8 97, int u8 98, int u8 99] 1 Md.ro none, cells (putCells (bys F) 14 [int u8 101]) 1 Md.own none]
noncomputable def hFR33 (n k A S E : Int) (F : List UInt8) : AHeap := []
noncomputable def hFR34 (n k A S E : Int) (F : List UInt8) : AHeap := [cells [int u8 97, int u8 98, int u8 99] 1 Md.ro none, cells (putCells (bys F) 14 [int u8 101]) 1 Md.own none, cells [AV.bool false, int i64 0, int i64 0, int i64 0, int u8 0, AV.bool false, int u8 0, int u8 0, int u8 0, int u8 0, int u8 0, int u8 0, int u8 0, int u8 0, int u8 0, int u8 0, int u8 0, int u8 0, int u8 0, int u8 0, int u8 0, int u8 0, AV.bool false, int u8 0, int u8 0, int u8 0, int u8 0, int u8 0, int u8 0, int u8 0, int u8 0, int u8 0, int u8 0, int u8 0, int u8 0, int u8 0, int u8 0, int u8 0, int u8 0, int u16 0, int u16 0, int u8 0] 42 Md.own none]
theorem nfFR3 {R : Type} (n k A S E : Int) (F : List UInt8) (K : AV → Option R) :
 qrun Try.prog (tFR F (.tup [.agg view0, .int .i64 3]) false) 100 4 [(15, .int .i64 3), (75, .bool true), (78, .bool false), (82, .bool true), (89, .bool true)] [] 7 [.int .i64 n, .int .i64 k] [] (fun v _ => K v) =
 (if cdec (BuildR0 [AV.agg [int u8 6, AV.bool false, int u8 10, int u8 (kb1 n), int u8 (kb2 n), int u8 (kb3 n), int u8 0, int u8 0, int u8 0, int u8 0, int u8 0, int u8 0, int u8 0, int u8 0, int u8 0, int u8 0, int u8 0, int u8 0, AV.bool false, int u8 192, int u8 168, int u8 0, int u8 1, int u8 0, int u8 0, int u8 0, int u8 0, int u8 0, int u8 0, int u8 0, int u8 0, int u8 0, int u8 0, int u8 0, int u8 0, int u16 (kport n), int u16 80], int u8 0, AV.sl (some (0, 0)) 3 0 false, AV.bool false, AV.bool false, int i64 0] (hFR30 n k A S E F) (AV.sl (some (1, 0)) F.length 0 false) (hFR31 n k A S E F)) = true then
 (if i64 = i64 ∧ k % 9 = 3 then
 (if Int.ofNat 0 ≤ Int.ofNat 14 ∧ 14 < (F.length : Int) then
 (if 14 + [int u8 101].length ≤ (bys F).length ∧ [int u8 101].all AV.isCell = true then
 (if cdec (Says eFrR [AV.sl (some (1, 0)) F.length 0 false] (hFR32 n k A S E F) (AV.tup [AV.agg view0, int i64 3]) (hFR33 n k A S E F)) = true then
 (if cdec (Says eGoodF [AV.sl (some (1, 0)) F.length 0 false] (hFR34 n k A S E F) (AV.bool false) (hFR33 n k A S E F)) = true then
 K (AV.bool true)
 else none) else none) else none) else none) else none) else none) := by
  kernel_rfl

noncomputable def hFR40 (n k A S E : Int) (F : List UInt8) : AHeap := [cells [int u8 97, int u8 98, int u8 99] 1 Md.ro none]
noncomputable def hFR41 (n k A S E : Int) (F : List UInt8) : AHeap := [cells (bys F) 1 Md.own none]
noncomputable def hFR42 (n k A S E : Int) (F : List UInt8) : AHeap := [cells [int u8 97, int u8 98, int u8 99] 1 Md.ro none, cells (putCells (bys F) 24 [int u8 (abits u8 (· ^^^ ·) (intV (bys F)[24]?) 1)]) 1 Md.own none]
noncomputable def hFR43 (n k A S E : Int) (F : List UInt8) : AHeap := []
noncomputable def hFR44 (n k A S E : Int) (F : List UInt8) : AHeap := [cells [int u8 97, int u8 98, int u8 99] 1 Md.ro none, cells (putCells (bys F) 24 [int u8 (abits u8 (· ^^^ ·) (intV (bys F)[24]?) 1)]) 1 Md.own none, cells [AV.bool false, int i64 0, int i64 0, int i64 0, int u8 0, AV.bool false, int u8 0, int u8 0, int u8 0, int u8 0, int u8 0, int u8 0, int u8 0, int u8 0, int u8 0, int u8 0, int u8 0, int u8 0, int u8 0, int u8 0, int u8 0, int u8 0, AV.bool false, int u8 0, int u8 0, int u8 0, int u8 0, int u8 0, int u8 0, int u8 0, int u8 0, int u8 0, int u8 0, int u8 0, int u8 0, int u8 0, int u8 0, int u8 0, int u8 0, int u16 0, int u16 0, int u8 0] 42 Md.own none]
theorem nfFR4 {R : Type} (n k A S E : Int) (F : List UInt8) (K : AV → Option R) :
 qrun Try.prog (tFR F (.tup [.agg view0, .int .i64 4]) false) 100 4 [(15, .int .i64 4), (75, .bool true), (78, .bool false), (82, .bool true), (89, .bool true)] [] 7 [.int .i64 n, .int .i64 k] [] (fun v _ => K v) =
 (if cdec (BuildR0 [AV.agg [int u8 6, AV.bool false, int u8 10, int u8 (kb1 n), int u8 (kb2 n), int u8 (kb3 n), int u8 0, int u8 0, int u8 0, int u8 0, int u8 0, int u8 0, int u8 0, int u8 0, int u8 0, int u8 0, int u8 0, int u8 0, AV.bool false, int u8 192, int u8 168, int u8 0, int u8 1, int u8 0, int u8 0, int u8 0, int u8 0, int u8 0, int u8 0, int u8 0, int u8 0, int u8 0, int u8 0, int u8 0, int u8 0, int u16 (kport n), int u16 80], int u8 0, AV.sl (some (0, 0)) 3 0 false, AV.bool false, AV.bool false, int i64 0] (hFR40 n k A S E F) (AV.sl (some (1, 0)) F.length 0 false) (hFR41 n k A S E F)) = true then
 (if i64 = i64 ∧ k % 9 = 4 then
 (if Int.ofNat 0 ≤ Int.ofNat 24 ∧ 24 < (F.length : Int) then
 (if isIntV u8 (bys F)[24]? = true then
 (if Int.ofNat 0 ≤ Int.ofNat 24 ∧ 24 < (F.length : Int) then
 (if 24 + [int u8 (abits u8 (· ^^^ ·) (intV (bys F)[24]?) 1)].length ≤ (bys F).length ∧ [int u8 (abits u8 (· ^^^ ·) (intV (bys F)[24]?) 1)].all AV.isCell = true then
 (if cdec (Says eFrR [AV.sl (some (1, 0)) F.length 0 false] (hFR42 n k A S E F) (AV.tup [AV.agg view0, int i64 4]) (hFR43 n k A S E F)) = true then
 (if cdec (Says eGoodF [AV.sl (some (1, 0)) F.length 0 false] (hFR44 n k A S E F) (AV.bool false) (hFR43 n k A S E F)) = true then
 K (AV.bool true)
 else none) else none) else none) else none) else none) else none) else none) else none) := by
  kernel_rfl

noncomputable def hFR50 (n k A S E : Int) (F : List UInt8) : AHeap := [cells [int u8 97, int u8 98, int u8 99] 1 Md.ro none]
noncomputable def hFR51 (n k A S E : Int) (F : List UInt8) : AHeap := [cells (bys F) 1 Md.own none]
noncomputable def hFR52 (n k A S E : Int) (F : List UInt8) : AHeap := [cells [int u8 97, int u8 98, int u8 99] 1 Md.ro none, cells (putCells (bys F) 46 [int u8 64]) 1 Md.own none]
noncomputable def hFR53 (n k A S E : Int) (F : List UInt8) : AHeap := []
noncomputable def hFR54 (n k A S E : Int) (F : List UInt8) : AHeap := [cells [int u8 97, int u8 98, int u8 99] 1 Md.ro none, cells (putCells (bys F) 46 [int u8 64]) 1 Md.own none, cells [AV.bool false, int i64 0, int i64 0, int i64 0, int u8 0, AV.bool false, int u8 0, int u8 0, int u8 0, int u8 0, int u8 0, int u8 0, int u8 0, int u8 0, int u8 0, int u8 0, int u8 0, int u8 0, int u8 0, int u8 0, int u8 0, int u8 0, AV.bool false, int u8 0, int u8 0, int u8 0, int u8 0, int u8 0, int u8 0, int u8 0, int u8 0, int u8 0, int u8 0, int u8 0, int u8 0, int u8 0, int u8 0, int u8 0, int u8 0, int u16 0, int u16 0, int u8 0] 42 Md.own none]
theorem nfFR5 {R : Type} (n k A S E : Int) (F : List UInt8) (K : AV → Option R) :
 qrun Try.prog (tFR F (.tup [.agg view0, .int .i64 3]) false) 100 4 [(15, .int .i64 5), (75, .bool true), (78, .bool false), (82, .bool true), (89, .bool true)] [] 7 [.int .i64 n, .int .i64 k] [] (fun v _ => K v) =
 (if cdec (BuildR0 [AV.agg [int u8 6, AV.bool false, int u8 10, int u8 (kb1 n), int u8 (kb2 n), int u8 (kb3 n), int u8 0, int u8 0, int u8 0, int u8 0, int u8 0, int u8 0, int u8 0, int u8 0, int u8 0, int u8 0, int u8 0, int u8 0, AV.bool false, int u8 192, int u8 168, int u8 0, int u8 1, int u8 0, int u8 0, int u8 0, int u8 0, int u8 0, int u8 0, int u8 0, int u8 0, int u8 0, int u8 0, int u8 0, int u8 0, int u16 (kport n), int u16 80], int u8 0, AV.sl (some (0, 0)) 3 0 false, AV.bool false, AV.bool false, int i64 0] (hFR50 n k A S E F) (AV.sl (some (1, 0)) F.length 0 false) (hFR51 n k A S E F)) = true then
 (if i64 = i64 ∧ k % 9 = 5 then
 (if Int.ofNat 0 ≤ Int.ofNat 46 ∧ 46 < (F.length : Int) then
 (if 46 + [int u8 64].length ≤ (bys F).length ∧ [int u8 64].all AV.isCell = true then
 (if cdec (Says eFrR [AV.sl (some (1, 0)) F.length 0 false] (hFR52 n k A S E F) (AV.tup [AV.agg view0, int i64 3]) (hFR53 n k A S E F)) = true then
 (if cdec (Says eGoodF [AV.sl (some (1, 0)) F.length 0 false] (hFR54 n k A S E F) (AV.bool false) (hFR53 n k A S E F)) = true then
 K (AV.bool true)
 else none) else none) else none) else none) else none) else none) := by
  kernel_rfl

noncomputable def hFR60 (n k A S E : Int) (F : List UInt8) : AHeap := [cells [int u8 97, int u8 98, int u8 99] 1 Md.ro none]
noncomputable def hFR61 (n k A S E : Int) (F : List UInt8) : AHeap := [cells (bys F) 1 Md.own none]
noncomputable def hFR62 (n k A S E : Int) (F : List UInt8) : AHeap := [cells [int u8 97, int u8 98, int u8 99] 1 Md.ro none, cells (bys F) 1 Md.own none]
noncomputable def hFR63 (n k A S E : Int) (F : List UInt8) : AHeap := []
noncomputable def hFR64 (n k A S E : Int) (F : List UInt8) : AHeap := [cells [int u8 97, int u8 98, int u8 99] 1 Md.ro none, cells (bys F) 1 Md.own none, cells [AV.bool false, int i64 0, int i64 0, int i64 0, int u8 0, AV.bool false, int u8 0, int u8 0, int u8 0, int u8 0, int u8 0, int u8 0, int u8 0, int u8 0, int u8 0, int u8 0, int u8 0, int u8 0, int u8 0, int u8 0, int u8 0, int u8 0, AV.bool false, int u8 0, int u8 0, int u8 0, int u8 0, int u8 0, int u8 0, int u8 0, int u8 0, int u8 0, int u8 0, int u8 0, int u8 0, int u8 0, int u8 0, int u8 0, int u8 0, int u16 0, int u16 0, int u8 0] 42 Md.own none]
theorem nfFR6 {R : Type} (n k A S E : Int) (F : List UInt8) (K : AV → Option R) :
 qrun Try.prog (tFR F (.tup [.agg view0, .int .i64 1]) false) 100 4 [(15, .int .i64 6), (75, .bool true), (78, .bool false), (82, .bool true), (89, .bool true)] [] 7 [.int .i64 n, .int .i64 k] [] (fun v _ => K v) =
 (if cdec (BuildR0 [AV.agg [int u8 6, AV.bool false, int u8 10, int u8 (kb1 n), int u8 (kb2 n), int u8 (kb3 n), int u8 0, int u8 0, int u8 0, int u8 0, int u8 0, int u8 0, int u8 0, int u8 0, int u8 0, int u8 0, int u8 0, int u8 0, AV.bool false, int u8 192, int u8 168, int u8 0, int u8 1, int u8 0, int u8 0, int u8 0, int u8 0, int u8 0, int u8 0, int u8 0, int u8 0, int u8 0, int u8 0, int u8 0, int u8 0, int u16 (kport n), int u16 80], int u8 0, AV.sl (some (0, 0)) 3 0 false, AV.bool false, AV.bool false, int i64 0] (hFR60 n k A S E F) (AV.sl (some (1, 0)) F.length 0 false) (hFR61 n k A S E F)) = true then
 (if i64 = i64 ∧ k % 9 = 6 then
 (if Int.ofNat 0 ≤ Int.ofNat 40 ∧ 40 ≤ (((capOf F.length 0 false) : Nat) : Int) then
 (if cdec (Says eFrR [AV.sl (some (1, 0)) 40 (roomOf F.length 0 0 false 40 false) false] (hFR62 n k A S E F) (AV.tup [AV.agg view0, int i64 1]) (hFR63 n k A S E F)) = true then
 (if cdec (Says eGoodF [AV.sl (some (1, 0)) 40 (roomOf F.length 0 0 false 40 false) false] (hFR64 n k A S E F) (AV.bool false) (hFR63 n k A S E F)) = true then
 K (AV.bool true)
 else none) else none) else none) else none) else none) := by
  kernel_rfl

noncomputable def hFR70 (n k A S E : Int) (F : List UInt8) : AHeap := [cells [int u8 97, int u8 98, int u8 99] 1 Md.ro none]
noncomputable def hFR71 (n k A S E : Int) (F : List UInt8) : AHeap := [cells (bys F) 1 Md.own none]
noncomputable def hFR72 (n k A S E : Int) (F : List UInt8) : AHeap := [cells [int u8 97, int u8 98, int u8 99] 1 Md.ro none, cells (putCells (putCells (bys F) 24 [int u8 (abits u8 (· ^^^ ·) (intV (bys F)[24]?) 1)]) 46 [int u8 64]) 1 Md.own none]
noncomputable def hFR73 (n k A S E : Int) (F : List UInt8) : AHeap := []
noncomputable def hFR74 (n k A S E : Int) (F : List UInt8) : AHeap := [cells [int u8 97, int u8 98, int u8 99] 1 Md.ro none, cells (putCells (putCells (bys F) 24 [int u8 (abits u8 (· ^^^ ·) (intV (bys F)[24]?) 1)]) 46 [int u8 64]) 1 Md.own none, cells [AV.bool false, int i64 0, int i64 0, int i64 0, int u8 0, AV.bool false, int u8 0, int u8 0, int u8 0, int u8 0, int u8 0, int u8 0, int u8 0, int u8 0, int u8 0, int u8 0, int u8 0, int u8 0, int u8 0, int u8 0, int u8 0, int u8 0, AV.bool false, int u8 0, int u8 0, int u8 0, int u8 0, int u8 0, int u8 0, int u8 0, int u8 0, int u8 0, int u8 0, int u8 0, int u8 0, int u8 0, int u8 0, int u8 0, int u8 0, int u16 0, int u16 0, int u8 0] 42 Md.own none]
theorem nfFR7 {R : Type} (n k A S E : Int) (F : List UInt8) (K : AV → Option R) :
 qrun Try.prog (tFR F (.tup [.agg view0, .int .i64 4]) false) 100 4 [(15, .int .i64 7), (75, .bool true), (78, .bool false), (82, .bool true), (89, .bool true)] [] 7 [.int .i64 n, .int .i64 k] [] (fun v _ => K v) =
 (if cdec (BuildR0 [AV.agg [int u8 6, AV.bool false, int u8 10, int u8 (kb1 n), int u8 (kb2 n), int u8 (kb3 n), int u8 0, int u8 0, int u8 0, int u8 0, int u8 0, int u8 0, int u8 0, int u8 0, int u8 0, int u8 0, int u8 0, int u8 0, AV.bool false, int u8 192, int u8 168, int u8 0, int u8 1, int u8 0, int u8 0, int u8 0, int u8 0, int u8 0, int u8 0, int u8 0, int u8 0, int u8 0, int u8 0, int u8 0, int u8 0, int u16 (kport n), int u16 80], int u8 0, AV.sl (some (0, 0)) 3 0 false, AV.bool false, AV.bool false, int i64 0] (hFR70 n k A S E F) (AV.sl (some (1, 0)) F.length 0 false) (hFR71 n k A S E F)) = true then
 (if i64 = i64 ∧ k % 9 = 7 then
 (if Int.ofNat 0 ≤ Int.ofNat 24 ∧ 24 < (F.length : Int) then
 (if isIntV u8 (bys F)[24]? = true then
 (if Int.ofNat 0 ≤ Int.ofNat 24 ∧ 24 < (F.length : Int) then
 (if 24 + [int u8 (abits u8 (· ^^^ ·) (intV (bys F)[24]?) 1)].length ≤ (bys F).length ∧ [int u8 (abits u8 (· ^^^ ·) (intV (bys F)[24]?) 1)].all AV.isCell = true then
 (if Int.ofNat 0 ≤ Int.ofNat 46 ∧ 46 < (F.length : Int) then
 (if 46 + [int u8 64].length ≤ (putCells (bys F) 24 [int u8 (abits u8 (· ^^^ ·) (intV (bys F)[24]?) 1)]).length ∧ [int u8 64].all AV.isCell = true then
 (if cdec (Says eFrR [AV.sl (some (1, 0)) F.length 0 false] (hFR72 n k A S E F) (AV.tup [AV.agg view0, int i64 4]) (hFR73 n k A S E F)) = true then
 (if cdec (Says eGoodF [AV.sl (some (1, 0)) F.length 0 false] (hFR74 n k A S E F) (AV.bool false) (hFR73 n k A S E F)) = true then
 K (AV.bool true)
 else none) else none) else none) else none) else none) else none) else none) else none) else none) else none) := by
  kernel_rfl

noncomputable def hFR80 (n k A S E : Int) (F : List UInt8) : AHeap := [cells [int u8 97, int u8 98, int u8 99] 1 Md.ro none]
noncomputable def hFR81 (n k A S E : Int) (F : List UInt8) : AHeap := [cells (bys F) 1 Md.own none]
noncomputable def hFR82 (n k A S E : Int) (F : List UInt8) : AHeap := [cells [int u8 97, int u8 98, int u8 99] 1 Md.ro none, cells (putCells (putCells (putCells (bys F) 12 [int u8 134]) 13 [int u8 221]) 14 [int u8 69]) 1 Md.own none]
noncomputable def hFR83 (n k A S E : Int) (F : List UInt8) : AHeap := []
noncomputable def hFR84 (n k A S E : Int) (F : List UInt8) : AHeap := [cells [int u8 97, int u8 98, int u8 99] 1 Md.ro none, cells (putCells (putCells (putCells (bys F) 12 [int u8 134]) 13 [int u8 221]) 14 [int u8 69]) 1 Md.own none, cells [AV.bool false, int i64 0, int i64 0, int i64 0, int u8 0, AV.bool false, int u8 0, int u8 0, int u8 0, int u8 0, int u8 0, int u8 0, int u8 0, int u8 0, int u8 0, int u8 0, int u8 0, int u8 0, int u8 0, int u8 0, int u8 0, int u8 0, AV.bool false, int u8 0, int u8 0, int u8 0, int u8 0, int u8 0, int u8 0, int u8 0, int u8 0, int u8 0, int u8 0, int u8 0, int u8 0, int u8 0, int u8 0, int u8 0, int u8 0, int u16 0, int u16 0, int u8 0] 42 Md.own none]
theorem nfFR8 {R : Type} (n k A S E : Int) (F : List UInt8) (K : AV → Option R) :
 qrun Try.prog (tFR F (.tup [.agg view0, .int .i64 3]) false) 100 4 [(15, .int .i64 8), (66, .bool true), (75, .bool true), (78, .bool false), (82, .bool true), (89, .bool true)] [] 7 [.int .i64 n, .int .i64 k] [] (fun v _ => K v) =
 (if cdec (BuildR0 [AV.agg [int u8 6, AV.bool false, int u8 10, int u8 (kb1 n), int u8 (kb2 n), int u8 (kb3 n), int u8 0, int u8 0, int u8 0, int u8 0, int u8 0, int u8 0, int u8 0, int u8 0, int u8 0, int u8 0, int u8 0, int u8 0, AV.bool false, int u8 192, int u8 168, int u8 0, int u8 1, int u8 0, int u8 0, int u8 0, int u8 0, int u8 0, int u8 0, int u8 0, int u8 0, int u8 0, int u8 0, int u8 0, int u8 0, int u16 (kport n), int u16 80], int u8 0, AV.sl (some (0, 0)) 3 0 false, AV.bool false, AV.bool false, int i64 0] (hFR80 n k A S E F) (AV.sl (some (1, 0)) F.length 0 false) (hFR81 n k A S E F)) = true then
 (if i64 = i64 ∧ k % 9 = 8 then
 (if Int.ofNat 0 ≤ Int.ofNat 12 ∧ 12 < (F.length : Int) then
 (if 12 + [int u8 134].length ≤ (bys F).length ∧ [int u8 134].all AV.isCell = true then
 (if Int.ofNat 0 ≤ Int.ofNat 13 ∧ 13 < (F.length : Int) then
 (if 13 + [int u8 221].length ≤ (putCells (bys F) 12 [int u8 134]).length ∧ [int u8 221].all AV.isCell = true then
 (if Int.ofNat 0 ≤ Int.ofNat 14 ∧ 14 < (F.length : Int) then
 (if 14 + [int u8 69].length ≤ (putCells (putCells (bys F) 12 [int u8 134]) 13 [int u8 221]).length ∧ [int u8 69].all AV.isCell = true then
 (if decide ((F.length : Int) ≥ 54) = true then
 (if cdec (Says eFrR [AV.sl (some (1, 0)) F.length 0 false] (hFR82 n k A S E F) (AV.tup [AV.agg view0, int i64 3]) (hFR83 n k A S E F)) = true then
 (if cdec (Says eGoodF [AV.sl (some (1, 0)) F.length 0 false] (hFR84 n k A S E F) (AV.bool false) (hFR83 n k A S E F)) = true then
 K (AV.bool true)
 else none) else none) else none) else none) else none) else none) else none) else none) else none) else none) else none) := by
  kernel_rfl


end Go.Proofs.Ythbneddbigclfaa.L
