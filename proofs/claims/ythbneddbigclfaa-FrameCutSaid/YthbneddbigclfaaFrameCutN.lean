/- FrameCut's run: what the kernel makes of it. -/
import Derived.Test.YthbneddbigclfaaFGood
import Derived.Test.YthbneddbigclfaaFrmAll
import Derived.Test.YthbneddbigclfaaCutKit
import Derived.Test.YthbneddbigclfaaBuild
import Derived.Test.YthbneddbigclfaaAwake8
set_option autoImplicit false
set_option maxRecDepth 100000
set_option linter.unusedVariables false
set_option linter.unusedSimpArgs false
namespace Go.Proofs.Ythbneddbigclfaa.L
open Go Go.Abs
open Go.IntKind
open Go.Abs.AV (int)
open Go.Abs.ABlk (cells)

noncomputable def tFC (F : List UInt8) (v w : AV) (g : Bool) : Tbl := [(17, entF eKey), (12, entF eRound), (18, entF (eRel BuildR [(1, slB 1 F, [ownB F])])), (9, entF (eSay eFrR [(2, v, []), (3, w, [])])), (13, entF (eSay eGoodF [(4, .bool g, [])])), (8, entF eAwake)]
theorem tFCOk (F : List UInt8) (v w : AV) (g : Bool) : ∀ f E, (tFC F v w g).find f = some E → SoundE Try.prog f E := find_cons sKey (find_cons sRound (find_cons (sBuild _) (find_cons (sSay sPRead _) (find_cons (sSay sFGood _) (find_cons sAwake (find_nil _))))))
noncomputable def hFC10 (v u t : Bool) (n A S E pad cut k : Int) (d F : List UInt8) : AHeap := [cells (bys d) 1 Md.far none]
noncomputable def hFC11 (v u t : Bool) (n A S E pad cut k : Int) (d F : List UInt8) : AHeap := [cells (bys F) 1 Md.own none]
noncomputable def hFC12 (v u t : Bool) (n A S E pad cut k : Int) (d F : List UInt8) : AHeap := [cells (bys d) 1 Md.far none, cells (bys F) 1 Md.own none]
noncomputable def hFC13 (v u t : Bool) (n A S E pad cut k : Int) (d F : List UInt8) : AHeap := []
noncomputable def hFC14 (v u t : Bool) (n A S E pad cut k : Int) (d F : List UInt8) : AHeap := [cells (bys d) 1 Md.far none, cells (bys F) 1 Md.own none, cells [AV.bool v, int i64 A, int i64 S, int i64 E, int u8 (prt u), AV.bool v, int u8 10, int u8 (kb1 n), int u8 (kb2 n), int u8 (kb3 n), int u8 0, int u8 0, int u8 0, int u8 0, int u8 0, int u8 0, int u8 0, int u8 0, int u8 0, int u8 0, int u8 0, int u8 0, AV.bool v, int u8 192, int u8 168, int u8 0, int u8 1, int u8 0, int u8 0, int u8 0, int u8 0, int u8 0, int u8 0, int u8 0, int u8 0, int u8 0, int u8 0, int u8 0, int u8 0, int u16 (kport n), int u16 80, int u8 0] 42 Md.own none]
noncomputable def hFC15 (v u t : Bool) (n A S E pad cut k : Int) (d F : List UInt8) : AHeap := [cells (bys d) 1 Md.far none, cells (bys F) 1 Md.own none, cells [AV.bool v, int i64 A, int i64 S, int i64 E, int u8 (prt u), AV.bool v, int u8 10, int u8 (kb1 n), int u8 (kb2 n), int u8 (kb3 n), int u8 0, int u8 0, int u8 0, int u8 0, int u8 0, int u8 0, int u8 0, int u8 0, int u8 0, int u8 0, int u8 0, int u8 0, AV.bool v, int u8 192, int u8 168, int u8 0, int u8 1, int u8 0, int u8 0, int u8 0, int u8 0, int u8 0, int u8 0, int u8 0, int u8 0, int u8 0, int u8 0, int u8 0, int u8 0, int u16 (kport n), int u16 80, int u8 0] 42 Md.own none, cells [AV.bool false, int i64 0, int i64 0, int i64 0, int u8 0, AV.bool false, int u8 0, int u8 0, int u8 0, int u8 0, int u8 0, int u8 0, int u8 0, int u8 0, int u8 0, int u8 0, int u8 0, int u8 0, int u8 0, int u8 0, int u8 0, int u8 0, AV.bool false, int u8 0, int u8 0, int u8 0, int u8 0, int u8 0, int u8 0, int u8 0, int u8 0, int u8 0, int u8 0, int u8 0, int u8 0, int u8 0, int u8 0, int u8 0, int u8 0, int u16 0, int u16 0, int u8 0] 42 Md.own none]
theorem nfFC1 {R : Type} (v u t : Bool) (n A S E pad cut k : Int) (d F : List UInt8) (K : AV → Option R) :
 qrun Try.prog (tFC F (.tup [.agg (viewOf v A S E (prt u) (kSrc v n) (kDst v) (kport n) 80 0), .int .i64 0]) (.tup [.agg view0, .int .i64 1]) false) 100 4 [(22, .bool false), (26, .bool false), (29, .bool false), (38, .bool t), (47, .bool false), (52, .int .i64 k), (63, .bool true), (66, .bool true), (71, .bool true), (78, .bool true)] [] 5 [.int .i64 n, .bool v, .bool u, slB 0 d, .int .i64 pad, .int .i64 cut] [farB d] (fun v _ => K v) =
 (if decide ((d.length : Int) > 300) = false then
 (if decide (pad < 0) = false then
 (if decide (pad > 50) = false then
 (if (n.tmod 2 == 0) = t then
 (if cdec (BuildR [AV.agg [int u8 (if u = true then 17 else 6), AV.bool v, int u8 10, int u8 (kb1 n), int u8 (kb2 n), int u8 (kb3 n), int u8 0, int u8 0, int u8 0, int u8 0, int u8 0, int u8 0, int u8 0, int u8 0, int u8 0, int u8 0, int u8 0, int u8 0, AV.bool v, int u8 192, int u8 168, int u8 0, int u8 1, int u8 0, int u8 0, int u8 0, int u8 0, int u8 0, int u8 0, int u8 0, int u8 0, int u8 0, int u8 0, int u8 0, int u8 0, int u16 (kport n), int u16 80], int u8 0, AV.sl (some (0, 0)) d.length 0 false, AV.bool t, AV.bool false, int i64 pad] (hFC10 v u t n A S E pad cut k d F) (AV.sl (some (1, 0)) F.length 0 false) (hFC11 v u t n A S E pad cut k d F)) = true then
 (if cdec (Says eFrR [AV.sl (some (1, 0)) F.length 0 false] (hFC12 v u t n A S E pad cut k d F) (AV.tup [AV.agg [AV.bool v, int i64 A, int i64 S, int i64 E, int u8 (prt u), AV.bool v, int u8 10, int u8 (kb1 n), int u8 (kb2 n), int u8 (kb3 n), int u8 0, int u8 0, int u8 0, int u8 0, int u8 0, int u8 0, int u8 0, int u8 0, int u8 0, int u8 0, int u8 0, int u8 0, AV.bool v, int u8 192, int u8 168, int u8 0, int u8 1, int u8 0, int u8 0, int u8 0, int u8 0, int u8 0, int u8 0, int u8 0, int u8 0, int u8 0, int u8 0, int u8 0, int u8 0, int u16 (kport n), int u16 80, int u8 0], int i64 0]) (hFC13 v u t n A S E pad cut k d F)) = true then
 (if decide (0 < i64.wrap ((F.length : Int) + 1) ∧ i64.wrap ((F.length : Int) + 1) < 4611686018427387904) = true then
 (if i64 = i64 ∧ cut % i64.wrap ((F.length : Int) + 1) = k then
 (if 0 ≤ k ∧ k ≤ (((capOf F.length 0 false) : Nat) : Int) then
 (if cdec (Says eFrR [AV.sl (some (1, 0)) (k.toNat - 0) (roomOf F.length 0 0 (some k).isNone k.toNat false) false] (hFC14 v u t n A S E pad cut k d F) (AV.tup [AV.agg view0, int i64 1]) (hFC13 v u t n A S E pad cut k d F)) = true then
 (if decide (k < intV (some (int i64 E))) = true then
 (if 0 ≤ k ∧ k ≤ (((capOf F.length 0 false) : Nat) : Int) then
 (if cdec (Says eGoodF [AV.sl (some (1, 0)) (k.toNat - 0) (roomOf F.length 0 0 (some k).isNone k.toNat false) false] (hFC15 v u t n A S E pad cut k d F) (AV.bool false) (hFC13 v u t n A S E pad cut k d F)) = true then
 K (AV.bool true)
 else none) else none) else none) else none) else none) else none) else none) else none) else none) else none) else none) else none) else none) := by
  kernel_rfl

noncomputable def hFC20 (v u t : Bool) (n A S E pad cut k : Int) (d F : List UInt8) : AHeap := [cells (bys d) 1 Md.far none]
noncomputable def hFC21 (v u t : Bool) (n A S E pad cut k : Int) (d F : List UInt8) : AHeap := [cells (bys F) 1 Md.own none]
noncomputable def hFC22 (v u t : Bool) (n A S E pad cut k : Int) (d F : List UInt8) : AHeap := [cells (bys d) 1 Md.far none, cells (bys F) 1 Md.own none]
noncomputable def hFC23 (v u t : Bool) (n A S E pad cut k : Int) (d F : List UInt8) : AHeap := []
noncomputable def hFC24 (v u t : Bool) (n A S E pad cut k : Int) (d F : List UInt8) : AHeap := [cells (bys d) 1 Md.far none, cells (bys F) 1 Md.own none, cells [AV.bool v, int i64 A, int i64 S, int i64 E, int u8 (prt u), AV.bool v, int u8 10, int u8 (kb1 n), int u8 (kb2 n), int u8 (kb3 n), int u8 0, int u8 0, int u8 0, int u8 0, int u8 0, int u8 0, int u8 0, int u8 0, int u8 0, int u8 0, int u8 0, int u8 0, AV.bool v, int u8 192, int u8 168, int u8 0, int u8 1, int u8 0, int u8 0, int u8 0, int u8 0, int u8 0, int u8 0, int u8 0, int u8 0, int u8 0, int u8 0, int u8 0, int u8 0, int u16 (kport n), int u16 80, int u8 0] 42 Md.own none]
noncomputable def hFC25 (v u t : Bool) (n A S E pad cut k : Int) (d F : List UInt8) : AHeap := [cells (bys d) 1 Md.far none, cells (bys F) 1 Md.own none, cells [AV.bool v, int i64 A, int i64 S, int i64 E, int u8 (prt u), AV.bool v, int u8 10, int u8 (kb1 n), int u8 (kb2 n), int u8 (kb3 n), int u8 0, int u8 0, int u8 0, int u8 0, int u8 0, int u8 0, int u8 0, int u8 0, int u8 0, int u8 0, int u8 0, int u8 0, AV.bool v, int u8 192, int u8 168, int u8 0, int u8 1, int u8 0, int u8 0, int u8 0, int u8 0, int u8 0, int u8 0, int u8 0, int u8 0, int u8 0, int u8 0, int u8 0, int u8 0, int u16 (kport n), int u16 80, int u8 0] 42 Md.own none, cells [AV.bool v, int i64 A, int i64 S, int i64 E, int u8 (prt u), AV.bool v, int u8 10, int u8 (kb1 n), int u8 (kb2 n), int u8 (kb3 n), int u8 0, int u8 0, int u8 0, int u8 0, int u8 0, int u8 0, int u8 0, int u8 0, int u8 0, int u8 0, int u8 0, int u8 0, AV.bool v, int u8 192, int u8 168, int u8 0, int u8 1, int u8 0, int u8 0, int u8 0, int u8 0, int u8 0, int u8 0, int u8 0, int u8 0, int u8 0, int u8 0, int u8 0, int u8 0, int u16 (kport n), int u16 80, int u8 0] 42 Md.own none]
theorem nfFC2 {R : Type} (v u t : Bool) (n A S E pad cut k : Int) (d F : List UInt8) (K : AV → Option R) :
 qrun Try.prog (tFC F (.tup [.agg (viewOf v A S E (prt u) (kSrc v n) (kDst v) (kport n) 80 0), .int .i64 0]) (.tup [.agg (viewOf v A S E (prt u) (kSrc v n) (kDst v) (kport n) 80 0), .int .i64 0]) true) 100 4 [(22, .bool false), (26, .bool false), (29, .bool false), (38, .bool t), (47, .bool false), (52, .int .i64 k), (63, .bool false), (83, .bool true), (88, .bool true), (94, .bool true)] [] 5 [.int .i64 n, .bool v, .bool u, slB 0 d, .int .i64 pad, .int .i64 cut] [farB d] (fun v _ => K v) =
 (if decide ((d.length : Int) > 300) = false then
 (if decide (pad < 0) = false then
 (if decide (pad > 50) = false then
 (if (n.tmod 2 == 0) = t then
 (if cdec (BuildR [AV.agg [int u8 (if u = true then 17 else 6), AV.bool v, int u8 10, int u8 (kb1 n), int u8 (kb2 n), int u8 (kb3 n), int u8 0, int u8 0, int u8 0, int u8 0, int u8 0, int u8 0, int u8 0, int u8 0, int u8 0, int u8 0, int u8 0, int u8 0, AV.bool v, int u8 192, int u8 168, int u8 0, int u8 1, int u8 0, int u8 0, int u8 0, int u8 0, int u8 0, int u8 0, int u8 0, int u8 0, int u8 0, int u8 0, int u8 0, int u8 0, int u16 (kport n), int u16 80], int u8 0, AV.sl (some (0, 0)) d.length 0 false, AV.bool t, AV.bool false, int i64 pad] (hFC20 v u t n A S E pad cut k d F) (AV.sl (some (1, 0)) F.length 0 false) (hFC21 v u t n A S E pad cut k d F)) = true then
 (if cdec (Says eFrR [AV.sl (some (1, 0)) F.length 0 false] (hFC22 v u t n A S E pad cut k d F) (AV.tup [AV.agg [AV.bool v, int i64 A, int i64 S, int i64 E, int u8 (prt u), AV.bool v, int u8 10, int u8 (kb1 n), int u8 (kb2 n), int u8 (kb3 n), int u8 0, int u8 0, int u8 0, int u8 0, int u8 0, int u8 0, int u8 0, int u8 0, int u8 0, int u8 0, int u8 0, int u8 0, AV.bool v, int u8 192, int u8 168, int u8 0, int u8 1, int u8 0, int u8 0, int u8 0, int u8 0, int u8 0, int u8 0, int u8 0, int u8 0, int u8 0, int u8 0, int u8 0, int u8 0, int u16 (kport n), int u16 80, int u8 0], int i64 0]) (hFC23 v u t n A S E pad cut k d F)) = true then
 (if decide (0 < i64.wrap ((F.length : Int) + 1) ∧ i64.wrap ((F.length : Int) + 1) < 4611686018427387904) = true then
 (if i64 = i64 ∧ cut % i64.wrap ((F.length : Int) + 1) = k then
 (if 0 ≤ k ∧ k ≤ (((capOf F.length 0 false) : Nat) : Int) then
 (if cdec (Says eFrR [AV.sl (some (1, 0)) (k.toNat - 0) (roomOf F.length 0 0 (some k).isNone k.toNat false) false] (hFC24 v u t n A S E pad cut k d F) (AV.tup [AV.agg [AV.bool v, int i64 A, int i64 S, int i64 E, int u8 (prt u), AV.bool v, int u8 10, int u8 (kb1 n), int u8 (kb2 n), int u8 (kb3 n), int u8 0, int u8 0, int u8 0, int u8 0, int u8 0, int u8 0, int u8 0, int u8 0, int u8 0, int u8 0, int u8 0, int u8 0, AV.bool v, int u8 192, int u8 168, int u8 0, int u8 1, int u8 0, int u8 0, int u8 0, int u8 0, int u8 0, int u8 0, int u8 0, int u8 0, int u8 0, int u8 0, int u8 0, int u8 0, int u16 (kport n), int u16 80, int u8 0], int i64 0]) (hFC23 v u t n A S E pad cut k d F)) = true then
 (if decide (k < intV (some (int i64 E))) = false then
 (if (boolV (some (AV.bool v)) == boolV (some (AV.bool v)) && (intV (some (int i64 A)) == intV (some (int i64 A)) && (intV (some (int i64 S)) == intV (some (int i64 S)) && (intV (some (int i64 E)) == intV (some (int i64 E)) && (intV (some (int u8 (prt u))) == intV (some (int u8 (prt u))) && (boolV (some (AV.bool v)) == boolV (some (AV.bool v)) && (intV (some (int u8 10)) == intV (some (int u8 10)) && (intV (some (int u8 (kb1 n))) == intV (some (int u8 (kb1 n))) && (intV (some (int u8 (kb2 n))) == intV (some (int u8 (kb2 n))) && (intV (some (int u8 (kb3 n))) == intV (some (int u8 (kb3 n))) && (intV (some (int u8 0)) == intV (some (int u8 0)) && (intV (some (int u8 0)) == intV (some (int u8 0)) && (intV (some (int u8 0)) == intV (some (int u8 0)) && (intV (some (int u8 0)) == intV (some (int u8 0)) && (intV (some (int u8 0)) == intV (some (int u8 0)) && (intV (some (int u8 0)) == intV (some (int u8 0)) && (intV (some (int u8 0)) == intV (some (int u8 0)) && (intV (some (int u8 0)) == intV (some (int u8 0)) && (intV (some (int u8 0)) == intV (some (int u8 0)) && (intV (some (int u8 0)) == intV (some (int u8 0)) && (intV (some (int u8 0)) == intV (some (int u8 0)) && (intV (some (int u8 0)) == intV (some (int u8 0)) && true))))))))))))))) && true) && (boolV (some (AV.bool v)) == boolV (some (AV.bool v)) && (intV (some (int u8 192)) == intV (some (int u8 192)) && (intV (some (int u8 168)) == intV (some (int u8 168)) && (intV (some (int u8 0)) == intV (some (int u8 0)) && (intV (some (int u8 1)) == intV (some (int u8 1)) && (intV (some (int u8 0)) == intV (some (int u8 0)) && (intV (some (int u8 0)) == intV (some (int u8 0)) && (intV (some (int u8 0)) == intV (some (int u8 0)) && (intV (some (int u8 0)) == intV (some (int u8 0)) && (intV (some (int u8 0)) == intV (some (int u8 0)) && (intV (some (int u8 0)) == intV (some (int u8 0)) && (intV (some (int u8 0)) == intV (some (int u8 0)) && (intV (some (int u8 0)) == intV (some (int u8 0)) && (intV (some (int u8 0)) == intV (some (int u8 0)) && (intV (some (int u8 0)) == intV (some (int u8 0)) && (intV (some (int u8 0)) == intV (some (int u8 0)) && (intV (some (int u8 0)) == intV (some (int u8 0)) && true))))))))))))))) && true) && (intV (some (int u16 (kport n))) == intV (some (int u16 (kport n))) && (intV (some (int u16 80)) == intV (some (int u16 80)) && true)))) && (intV (some (int u8 0)) == intV (some (int u8 0)) && true)))))) = true then
 (if 0 ≤ k ∧ k ≤ (((capOf F.length 0 false) : Nat) : Int) then
 (if cdec (Says eGoodF [AV.sl (some (1, 0)) (k.toNat - 0) (roomOf F.length 0 0 (some k).isNone k.toNat false) false] (hFC25 v u t n A S E pad cut k d F) (AV.bool true) (hFC23 v u t n A S E pad cut k d F)) = true then
 K (AV.bool true)
 else none) else none) else none) else none) else none) else none) else none) else none) else none) else none) else none) else none) else none) else none) := by
  kernel_rfl

theorem nfFCX1 {R : Type} (v u : Bool) (n pad cut : Int) (d : List UInt8) (K : AV → Option R) :
 qrun Try.prog (tFC [] .nilFn .nilFn false) 100 4 [(22, .bool true)] [] 5 [.int .i64 n, .bool v, .bool u, slB 0 d, .int .i64 pad, .int .i64 cut] [farB d] (fun v _ => K v) =
 (if decide ((d.length : Int) > 300) = true then
 K (AV.bool true)
 else none) := by
  kernel_rfl

theorem nfFCX2 {R : Type} (v u : Bool) (n pad cut : Int) (d : List UInt8) (K : AV → Option R) :
 qrun Try.prog (tFC [] .nilFn .nilFn false) 100 4 [(22, .bool false), (26, .bool true)] [] 5 [.int .i64 n, .bool v, .bool u, slB 0 d, .int .i64 pad, .int .i64 cut] [farB d] (fun v _ => K v) =
 (if decide ((d.length : Int) > 300) = false then
 (if decide (pad < 0) = true then
 K (AV.bool true)
 else none) else none) := by
  kernel_rfl

theorem nfFCX3 {R : Type} (v u : Bool) (n pad cut : Int) (d : List UInt8) (K : AV → Option R) :
 qrun Try.prog (tFC [] .nilFn .nilFn false) 100 4 [(22, .bool false), (26, .bool false), (29, .bool true)] [] 5 [.int .i64 n, .bool v, .bool u, slB 0 d, .int .i64 pad, .int .i64 cut] [farB d] (fun v _ => K v) =
 (if decide ((d.length : Int) > 300) = false then
 (if decide (pad < 0) = false then
 (if decide (pad > 50) = true then
 K (AV.bool true)
 else none) else none) else none) := by
  kernel_rfl


end Go.Proofs.Ythbneddbigclfaa.L
