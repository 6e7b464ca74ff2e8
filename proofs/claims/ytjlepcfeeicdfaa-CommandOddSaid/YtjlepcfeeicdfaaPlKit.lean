/- DIPs, and DIPs with a number each, as rows. -/
import Derived.Test.YtjlepcfeeicdfaaGcKit
import Derived.Test.YtjlepcfeeicdfaaAddrB
import Derived.Test.YtjlepcfeeicdfaaDipKit
import Derived.Test.YtjlepcfeeicdfaaOctB
import Derived.Test.YtjlepcfeeicdfaaBase
set_option autoImplicit false
set_option maxRecDepth 100000
set_option linter.unusedVariables false
set_option linter.unusedSimpArgs false
namespace Go.Proofs.Ytjlepcfeeicdfaa.L
open Go Go.Abs

def dipZ : List AV := [.bool false, .int .u8 0, .int .u8 0, .int .u8 0, .int .u8 0, .int .u8 0, .int .u8 0, .int .u8 0, .int .u8 0, .int .u8 0, .int .u8 0, .int .u8 0, .int .u8 0, .int .u8 0, .int .u8 0, .int .u8 0, .int .u8 0, .int .u16 0]
theorem wrap1 {i : Nat} (h : i ≤ 1000000000) : IntKind.i64.wrap ((i : Int) + 1) = ((i + 1 : Nat) : Int) := by rw [wrapI64 (by omega)]; omega
theorem cells_isCell (x : DipC) : x.cells.all AV.isCell = true := by
  obtain ⟨v, b, q, hb⟩ := x
  obtain ⟨a0, a1, a2, a3, a4, a5, a6, a7, a8, a9, a10, a11, a12, a13, a14, a15, rfl⟩ := sixteen hb
  rfl
def illC (x : DipC) (v : Int) : List AV := x.cells ++ [.int .i64 v]
@[simp] theorem illC_length (x : DipC) (v : Int) : (illC x v).length = 19 := by simp [illC]
theorem illC_frees (x : DipC) (v : Int) : AV.frees (illC x v) = true := frees_append x.cells_frees rfl
theorem illC_cell (x : DipC) (v : Int) : (illC x v).all AV.isCell = true := by simp [illC, List.all_append, cells_isCell]
theorem putA (x : DipC) : putCells [AV.bool false, AV.int IntKind.u8 0, AV.int IntKind.u8 0, AV.int IntKind.u8 0, AV.int IntKind.u8 0, AV.int IntKind.u8 0, AV.int IntKind.u8 0, AV.int IntKind.u8 0, AV.int IntKind.u8 0, AV.int IntKind.u8 0, AV.int IntKind.u8 0, AV.int IntKind.u8 0, AV.int IntKind.u8 0, AV.int IntKind.u8 0, AV.int IntKind.u8 0, AV.int IntKind.u8 0, AV.int IntKind.u8 0, AV.int IntKind.u16 0, AV.int IntKind.i64 0] 0 x.cells = illC x 0 := by
  rw [putCells_at _ _ _ (by rw [DipC.cells_length]; decide), List.take_zero, List.nil_append, DipC.cells_length]; rfl
theorem putB (x : DipC) (v w : Int) : putCells (illC x v) 18 [.int .i64 w] = illC x w := by
  rw [putCells_at _ _ _ (by simp)]
  unfold illC
  rw [List.take_left' (by simp), List.drop_of_length_le (by simp), List.append_nil]
theorem putC (x : DipC) (v : Int) : putCells [AV.bool false, AV.int IntKind.u8 0, AV.int IntKind.u8 0, AV.int IntKind.u8 0, AV.int IntKind.u8 0, AV.int IntKind.u8 0, AV.int IntKind.u8 0, AV.int IntKind.u8 0, AV.int IntKind.u8 0, AV.int IntKind.u8 0, AV.int IntKind.u8 0, AV.int IntKind.u8 0, AV.int IntKind.u8 0, AV.int IntKind.u8 0, AV.int IntKind.u8 0, AV.int IntKind.u8 0, AV.int IntKind.u8 0, AV.int IntKind.u16 0, AV.int IntKind.i64 0] 0 (illC x v) = illC x v := by
  rw [putCells_at _ _ _ (by rw [illC_length]; decide), List.take_zero, List.nil_append, illC_length]; exact List.append_nil _
abbrev PL := List (DipC × Int)
def itP (P : PL) : List AV := P.flatMap fun p => illC p.1 p.2
@[simp] theorem itP_length : ∀ P : PL, (itP P).length = P.length * 19
  | [] => rfl
  | d :: P => by
    show (illC d.1 d.2 ++ itP P).length = _
    rw [List.length_append, illC_length, itP_length P, List.length_cons]; omega
theorem itP_frees : ∀ P : PL, AV.frees (itP P) = true
  | [] => rfl
  | d :: P => frees_append (illC_frees _ _) (itP_frees P)
theorem itP_append (P Q : PL) : itP (P ++ Q) = itP P ++ itP Q := by simp [itP]
theorem itP_drop : ∀ (P : PL) (i : Nat), (itP P).drop (i * 19) = itP (P.drop i)
  | [], i => by simp [itP]
  | d :: P, 0 => by simp
  | d :: P, i + 1 => by
    show List.drop ((i + 1) * 19) (illC d.1 d.2 ++ itP P) = itP (P.drop i)
    rw [List.drop_append, List.drop_of_length_le (by rw [illC_length]; omega), illC_length, show (i + 1) * 19 - 19 = i * 19 by omega, itP_drop P i]; rfl
theorem itP_19 {P : PL} {i : Nat} (h : i < P.length) : ((itP P).drop (i * 19)).take 19 = illC P[i].1 P[i].2 := by
  rw [itP_drop, List.drop_eq_getElem_cons h]
  show List.take 19 (illC P[i].1 P[i].2 ++ itP _) = _
  exact List.take_left' (by simp)
end Go.Proofs.Ytjlepcfeeicdfaa.L
