/- DIPs, and DIPs with a number each, as rows. -/
import Derived.Test.YtnchnjkakddhlaaGcKit
import Derived.Test.YtnchnjkakddhlaaAddrB
import Derived.Test.YtnchnjkakddhlaaDipKit
import Derived.Test.YtnchnjkakddhlaaOctB
import Derived.Test.YtnchnjkakddhlaaBase
set_option autoImplicit false
set_option maxRecDepth 100000
set_option linter.unusedVariables false
set_option linter.unusedSimpArgs false
namespace Go.Proofs.Ytnchnjkakddhlaa.L
open Go Go.Abs

def zv5 (x : DipC) (v : Int) : List AV := x.cells ++ [.int .i64 v]
@[simp] theorem znC (x : DipC) (v : Int) : (zv5 x v).length = 19 := by simp [zv5]
theorem zBi (x : DipC) : zae [AV.bool false, AV.int IntKind.u8 0, AV.int IntKind.u8 0, AV.int IntKind.u8 0, AV.int IntKind.u8 0, AV.int IntKind.u8 0, AV.int IntKind.u8 0, AV.int IntKind.u8 0, AV.int IntKind.u8 0, AV.int IntKind.u8 0, AV.int IntKind.u8 0, AV.int IntKind.u8 0, AV.int IntKind.u8 0, AV.int IntKind.u8 0, AV.int IntKind.u8 0, AV.int IntKind.u8 0, AV.int IntKind.u8 0, AV.int IntKind.u16 0, AV.int IntKind.i64 0] 0 x.cells = zv5 x 0 := by
 rw [zgM _ _ _ (by rw [DipC.cells_length]; decide), List.take_zero, List.nil_append, DipC.cells_length]; rfl
theorem zBd (x : DipC) (v w : Int) : zae (zv5 x v) 18 [.int .i64 w] = zv5 x w := by
 rw [zgM _ _ _ (by simp)]
 unfold zv5
 rw [List.take_left' (by simp), List.drop_of_length_le (by simp), List.append_nil]
abbrev PL := List (DipC × Int)
def itP (P : PL) : List AV := P.flatMap fun p => zv5 p.1 p.2
@[simp] theorem zpY : ∀ P : PL, (itP P).length = P.length * 19
 | [] => rfl
 | d :: P => by
  show (zv5 d.1 d.2 ++ itP P).length = _
  rw [List.length_append, znC, zpY P, List.length_cons]; omega
end Go.Proofs.Ytnchnjkakddhlaa.L
