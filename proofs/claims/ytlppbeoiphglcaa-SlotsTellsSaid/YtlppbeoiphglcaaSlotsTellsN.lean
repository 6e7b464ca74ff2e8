/- SlotsTells: its rows. -/
import Derived.Test.YtlppbeoiphglcaaRfR
import Derived.Test.YtlppbeoiphglcaaRsM
import Derived.Test.YtlppbeoiphglcaaCmK
import Derived.Test.YtlppbeoiphglcaaIntsK
import Derived.Test.YtlppbeoiphglcaaAwake17
set_option autoImplicit false
set_option maxRecDepth 100000
set_option linter.unusedVariables false
set_option linter.unusedSimpArgs false
namespace Go.Proofs.Ytlppbeoiphglcaa.L
open Go Go.Abs
open Go.IntKind
open Go.Abs.AV (int)
open Go.Abs.ABlk (cells)

noncomputable def tST (X Y : List DipC) (S Z : List Int) (x y s z : Nat) (e f : Int) : Tbl := [(10, entF (eRel FlR [(2, .tup [.sl (some (2, 0)) x 0 false, .int .i64 e], [.cells (dipsC X) 18 .own none])])), (11, entF (eRel RfR [(3, .tup [.sl (some (3, 0)) y 0 false, .int .i64 f], [.cells (dipsC Y) 18 .own none])])), (12, entF eCk), (13, entF eMb), (15, entF (eRel ShR [(4, .sl (some (4, 0)) s 0 false, [.cells (intL S) 1 .own none])])), (16, entF (eRel RhR [(5, .sl (some (5, 0)) z 0 false, [.cells (intL Z) 1 .own none])])), (14, entF (eRel IntsR [(6, .bool true, [])])), (17, entF (eRel DpR [(6, .bool true, [])])), (18, entF (eRelI MvR)), (19, entF (eRelI RmR)), (9, entF eAwake)]
theorem tSTOk (X Y : List DipC) (S Z : List Int) (x y s z : Nat) (e f : Int) : ∀ a E, (tST X Y S Z x y s z e f).find a = some E → SoundE Try.prog a E := find_cons (sFl _) (find_cons (sRf _) (find_cons sCkF (find_cons sMb (find_cons (sSh _) (find_cons (sRh _) (find_cons (sInts _) (find_cons (sDp _) (find_cons sMvI (find_cons sRmI (find_cons sAwake (find_nil _)))))))))))

noncomputable def hST0 (M O : List AV) (m o : Nat) (n : Int) (X Y : List DipC) (S Z : List Int) (x y s z : Nat) (e f : Int) : AHeap := [ABlk.cells M 19 Md.far none, ABlk.cells O 18 Md.far none]
noncomputable def hST1 (M O : List AV) (m o : Nat) (n : Int) (X Y : List DipC) (S Z : List Int) (x y s z : Nat) (e f : Int) : AHeap := [cells (dipsC X) 18 Md.own none]
noncomputable def hST2 (M O : List AV) (m o : Nat) (n : Int) (X Y : List DipC) (S Z : List Int) (x y s z : Nat) (e f : Int) : AHeap := [ABlk.cells M 19 Md.far none, ABlk.cells O 18 Md.far none, cells (dipsC X) 18 Md.own none]
noncomputable def hST3 (M O : List AV) (m o : Nat) (n : Int) (X Y : List DipC) (S Z : List Int) (x y s z : Nat) (e f : Int) : AHeap := [cells (dipsC Y) 18 Md.own none]
noncomputable def hST4 (M O : List AV) (m o : Nat) (n : Int) (X Y : List DipC) (S Z : List Int) (x y s z : Nat) (e f : Int) : AHeap := [ABlk.cells M 19 Md.far none, ABlk.cells O 18 Md.far none, cells (dipsC X) 18 Md.own none, cells (dipsC Y) 18 Md.own none]
noncomputable def hST5 (M O : List AV) (m o : Nat) (n : Int) (X Y : List DipC) (S Z : List Int) (x y s z : Nat) (e f : Int) : AHeap := []
noncomputable def hST6 (M O : List AV) (m o : Nat) (n : Int) (X Y : List DipC) (S Z : List Int) (x y s z : Nat) (e f : Int) : AHeap := [cells (intL S) 1 Md.own none]
noncomputable def hST7 (M O : List AV) (m o : Nat) (n : Int) (X Y : List DipC) (S Z : List Int) (x y s z : Nat) (e f : Int) : AHeap := [ABlk.cells M 19 Md.far none, ABlk.cells O 18 Md.far none, cells (dipsC X) 18 Md.own none, cells (dipsC Y) 18 Md.own none, cells (intL S) 1 Md.own none]
noncomputable def hST8 (M O : List AV) (m o : Nat) (n : Int) (X Y : List DipC) (S Z : List Int) (x y s z : Nat) (e f : Int) : AHeap := [cells (intL Z) 1 Md.own none]
noncomputable def hST9 (M O : List AV) (m o : Nat) (n : Int) (X Y : List DipC) (S Z : List Int) (x y s z : Nat) (e f : Int) : AHeap := [ABlk.cells M 19 Md.far none, ABlk.cells O 18 Md.far none, cells (dipsC X) 18 Md.own none, cells (dipsC Y) 18 Md.own none, cells (intL S) 1 Md.own none, cells (intL Z) 1 Md.own none]
theorem nfST {R : Type} (M O : List AV) (m o : Nat) (n : Int) (X Y : List DipC) (S Z : List Int) (x y s z : Nat) (e f : Int) (K : AV → AHeap → Option R) :
 qrun Try.prog (tST X Y S Z x y s z e f) 100 4 [] [] 3 [.sl (some (0, 0)) m 0 false, .sl (some (1, 0)) o 0 false, .int .i64 n] [.cells M 19 .far none, .cells O 18 .far none] K =
 (if decide ((m : Int) ≤ 40) = true then
 (if (!decide ((o : Int) ≤ 70)) = true then
 K (AV.bool true) ((hST0 M O m o n X Y S Z x y s z e f))
 else (if cdec (FlR [AV.sl (some (1, 0)) o 0 false, AV.sl (some (0, 0)) m 0 false, int i64 n] (hST0 M O m o n X Y S Z x y s z e f) (AV.tup [AV.sl (some (2, 0)) x 0 false, int i64 e]) (hST1 M O m o n X Y S Z x y s z e f)) = true then
 (if cdec (RfR [AV.sl (some (1, 0)) o 0 false, AV.sl (some (0, 0)) m 0 false, int i64 n] (hST2 M O m o n X Y S Z x y s z e f) (AV.tup [AV.sl (some (3, 0)) y 0 false, int i64 f]) (hST3 M O m o n X Y S Z x y s z e f)) = true then
 (if cdec (CkR [AV.sl (some (0, 0)) m 0 false] (hST4 M O m o n X Y S Z x y s z e f) (int i64 (opq (chkP (plOf (rowOf (hST4 M O m o n X Y S Z x y s z e f) (AV.sl (some (0, 0)) m 0 false)))))) (hST5 M O m o n X Y S Z x y s z e f)) = true then
 (if cdec (rowP (hST4 M O m o n X Y S Z x y s z e f) (AV.sl (some (0, 0)) m 0 false) (plOf (rowOf (hST4 M O m o n X Y S Z x y s z e f) (AV.sl (some (0, 0)) m 0 false))) ∧ nOf (AV.sl (some (0, 0)) m 0 false) ≤ 1000000) = true then
 (if ((opq (chkP (plOf (rowOf (hST4 M O m o n X Y S Z x y s z e f) (AV.sl (some (0, 0)) m 0 false)))) == 0) == opq (decide (chkP (plOf (rowOf (hST4 M O m o n X Y S Z x y s z e f) (AV.sl (some (0, 0)) m 0 false))) = 0))) = true then
 (if cdec (ShR [AV.sl (some (0, 0)) m 0 false, int i64 n] (hST4 M O m o n X Y S Z x y s z e f) (AV.sl (some (4, 0)) s 0 false) (hST6 M O m o n X Y S Z x y s z e f)) = true then
 (if cdec (RhR [AV.sl (some (0, 0)) m 0 false, int i64 n] (hST7 M O m o n X Y S Z x y s z e f) (AV.sl (some (5, 0)) z 0 false) (hST8 M O m o n X Y S Z x y s z e f)) = true then
 (if cdec (IntsR [AV.sl (some (4, 0)) s 0 false, AV.sl (some (5, 0)) z 0 false] (hST9 M O m o n X Y S Z x y s z e f) (AV.bool true) (hST5 M O m o n X Y S Z x y s z e f)) = true then
 (if cdec (DpR [AV.sl (some (2, 0)) x 0 false, AV.sl (some (3, 0)) y 0 false] (hST9 M O m o n X Y S Z x y s z e f) (AV.bool true) (hST5 M O m o n X Y S Z x y s z e f)) = true then
 (if (e == f) = true then
 (if cdec (MvR [AV.sl (some (1, 0)) o 0 false, AV.sl (some (2, 0)) x 0 false] (hST9 M O m o n X Y S Z x y s z e f) (int i64 (intC MvR [AV.sl (some (1, 0)) o 0 false, AV.sl (some (2, 0)) x 0 false] (hST9 M O m o n X Y S Z x y s z e f))) (hST5 M O m o n X Y S Z x y s z e f)) = true then
 (if cdec (RmR [AV.sl (some (1, 0)) o 0 false, AV.sl (some (2, 0)) x 0 false] (hST9 M O m o n X Y S Z x y s z e f) (int i64 (intC RmR [AV.sl (some (1, 0)) o 0 false, AV.sl (some (2, 0)) x 0 false] (hST9 M O m o n X Y S Z x y s z e f))) (hST5 M O m o n X Y S Z x y s z e f)) = true then
 (if (intC MvR [AV.sl (some (1, 0)) o 0 false, AV.sl (some (2, 0)) x 0 false] (hST9 M O m o n X Y S Z x y s z e f) == intC RmR [AV.sl (some (1, 0)) o 0 false, AV.sl (some (2, 0)) x 0 false] (hST9 M O m o n X Y S Z x y s z e f)) = true then
 K (AV.bool true) ((hST9 M O m o n X Y S Z x y s z e f))
 else K (AV.bool false) ((hST9 M O m o n X Y S Z x y s z e f)))
 else none) else none)
 else K (AV.bool false) ((hST9 M O m o n X Y S Z x y s z e f)))
 else none) else none) else none) else none)
 else K (AV.bool false) ((hST4 M O m o n X Y S Z x y s z e f)))
 else none) else none) else none) else none))
 else K (AV.bool true) ((hST0 M O m o n X Y S Z x y s z e f))) := by
  kernel_rfl


end Go.Proofs.Ytlppbeoiphglcaa.L
