/- law7's of: what the kernel makes of it. -/
import Derived.Test.YtmlenlfhciapfaaRRead
import Derived.Test.YtmlenlfhciapfaaBuild
import Derived.Test.YtmlenlfhciapfaaFrmKit
set_option autoImplicit false
set_option maxRecDepth 100000
set_option linter.unusedVariables false
set_option linter.unusedSimpArgs false
namespace Go.Proofs.Ytmlenlfhciapfaa.L
open Go Go.Abs
open Go.IntKind
open Go.Abs.AV (int)
open Go.Abs.ABlk (cells)

noncomputable def tOf (F : List UInt8) (v : AV) : Tbl := [(37, entF (eRel BuildR0 [(2, slB 2 F, [ownB F]), (3, slB 3 F, [ownB F])])), (38, entF (eSay eFrR [(3, v, []), (4, v, [])]))]
theorem tOfOk (F : List UInt8) (v : AV) : ∀ f E, (tOf F v).find f = some E → SoundE Try.prog f E := find_cons (sBuild0 _) (find_cons (sSay sRRead _) (find_nil _))
noncomputable def hOf0 (v u bare : Bool) (n A S E sp dp fl : Int) (d F : List UInt8) : AHeap := [cells (bys d) 1 Md.far none, cells [int u8 (prt u), AV.bool v, int u8 10, int u8 (kb1 n), int u8 (kb2 n), int u8 (kb3 n), int u8 0, int u8 0, int u8 0, int u8 0, int u8 0, int u8 0, int u8 0, int u8 0, int u8 0, int u8 0, int u8 0, int u8 0, AV.bool v, int u8 192, int u8 168, int u8 0, int u8 1, int u8 0, int u8 0, int u8 0, int u8 0, int u8 0, int u8 0, int u8 0, int u8 0, int u8 0, int u8 0, int u8 0, int u8 0, int u16 (kport n), int u16 80] 37 Md.own none]
noncomputable def hOf1 (v u bare : Bool) (n A S E sp dp fl : Int) (d F : List UInt8) : AHeap := [cells (bys F) 1 Md.own none]
noncomputable def hOf2 (v u bare : Bool) (n A S E sp dp fl : Int) (d F : List UInt8) : AHeap := [cells (bys d) 1 Md.far none, cells [int u8 (prt u), AV.bool v, int u8 10, int u8 (kb1 n), int u8 (kb2 n), int u8 (kb3 n), int u8 0, int u8 0, int u8 0, int u8 0, int u8 0, int u8 0, int u8 0, int u8 0, int u8 0, int u8 0, int u8 0, int u8 0, AV.bool v, int u8 192, int u8 168, int u8 0, int u8 1, int u8 0, int u8 0, int u8 0, int u8 0, int u8 0, int u8 0, int u8 0, int u8 0, int u8 0, int u8 0, int u8 0, int u8 0, int u16 (kport n), int u16 80] 37 Md.own none, cells (bys F) 1 Md.own none]
noncomputable def hOf3 (v u bare : Bool) (n A S E sp dp fl : Int) (d F : List UInt8) : AHeap := []
noncomputable def hOf4 (v u bare : Bool) (n A S E sp dp fl : Int) (d F : List UInt8) : AHeap := [cells (bys d) 1 Md.far none, cells [int u8 (prt u), AV.bool v, int u8 10, int u8 (kb1 n), int u8 (kb2 n), int u8 (kb3 n), int u8 0, int u8 0, int u8 0, int u8 0, int u8 0, int u8 0, int u8 0, int u8 0, int u8 0, int u8 0, int u8 0, int u8 0, AV.bool v, int u8 192, int u8 168, int u8 0, int u8 1, int u8 0, int u8 0, int u8 0, int u8 0, int u8 0, int u8 0, int u8 0, int u8 0, int u8 0, int u8 0, int u8 0, int u8 0, int u16 (kport n), int u16 80] 37 Md.own none, cells (bys F) 1 Md.own none, cells [AV.bool v, int i64 A, int i64 S, int i64 E, int u8 (prt u), AV.bool v, int u8 10, int u8 (kb1 n), int u8 (kb2 n), int u8 (kb3 n), int u8 0, int u8 0, int u8 0, int u8 0, int u8 0, int u8 0, int u8 0, int u8 0, int u8 0, int u8 0, int u8 0, int u8 0, AV.bool v, int u8 192, int u8 168, int u8 0, int u8 1, int u8 0, int u8 0, int u8 0, int u8 0, int u8 0, int u8 0, int u8 0, int u8 0, int u8 0, int u8 0, int u8 0, int u8 0, int u16 sp, int u16 dp, int u8 fl] 42 Md.own none]
theorem nfOf {R : Type} (v u bare : Bool) (n A S E sp dp fl : Int) (d F : List UInt8) (K : AV → AHeap → Option R) :
 qrun Try.prog (tOf F (.tup [.agg (viewOf v A S E (prt u) (kSrc v n) (kDst v) sp dp fl), .int .i64 0])) 100 4 [] [] 19 [.agg (keyV v u n), slB 0 d, .bool bare] [farB d] K =
 (if cdec (BuildR0 [AV.agg [int u8 (prt u), AV.bool v, int u8 10, int u8 (kb1 n), int u8 (kb2 n), int u8 (kb3 n), int u8 0, int u8 0, int u8 0, int u8 0, int u8 0, int u8 0, int u8 0, int u8 0, int u8 0, int u8 0, int u8 0, int u8 0, AV.bool v, int u8 192, int u8 168, int u8 0, int u8 1, int u8 0, int u8 0, int u8 0, int u8 0, int u8 0, int u8 0, int u8 0, int u8 0, int u8 0, int u8 0, int u8 0, int u8 0, int u16 (kport n), int u16 80], int u8 2, AV.sl (some (0, 0)) d.length 0 false, AV.bool false, AV.bool bare, int i64 0] (hOf0 v u bare n A S E sp dp fl d F) (AV.sl (some (2, 0)) F.length 0 false) (hOf1 v u bare n A S E sp dp fl d F)) = true then
 (if cdec (Says eFrR [AV.sl (some (2, 0)) F.length 0 false] (hOf2 v u bare n A S E sp dp fl d F) (AV.tup [AV.agg [AV.bool v, int i64 A, int i64 S, int i64 E, int u8 (prt u), AV.bool v, int u8 10, int u8 (kb1 n), int u8 (kb2 n), int u8 (kb3 n), int u8 0, int u8 0, int u8 0, int u8 0, int u8 0, int u8 0, int u8 0, int u8 0, int u8 0, int u8 0, int u8 0, int u8 0, AV.bool v, int u8 192, int u8 168, int u8 0, int u8 1, int u8 0, int u8 0, int u8 0, int u8 0, int u8 0, int u8 0, int u8 0, int u8 0, int u8 0, int u8 0, int u8 0, int u8 0, int u16 sp, int u16 dp, int u8 fl], int i64 0]) (hOf3 v u bare n A S E sp dp fl d F)) = true then
 (if 0 ≤ intV (some (int i64 E)) ∧ intV (some (int i64 E)) ≤ (((capOf F.length 0 false) : Nat) : Int) then
 (if 0 ≤ intV (some (int i64 S)) ∧ intV (some (int i64 S)) ≤ intV (some (int i64 E)) then
 K (AV.sl (some (2, 0 + (intV (some (int i64 S))).toNat * 1)) ((intV (some (int i64 E))).toNat - (intV (some (int i64 S))).toNat) (roomOf F.length 0 (intV (some (int i64 S))).toNat (some (intV (some (int i64 E)))).isNone (intV (some (int i64 E))).toNat false) false) ((hOf4 v u bare n A S E sp dp fl d F))
 else none) else none) else none) else none) := by
  kernel_rfl


end Go.Proofs.Ytmlenlfhciapfaa.L
