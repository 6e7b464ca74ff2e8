/- ipfour's Dest and Make, and the reference's. -/
import Derived.Test.YtjkkhbeidhpghaaFour
import Derived.Test.YtjkkhbeidhpghaaAddrB
import Derived.Test.YtjkkhbeidhpghaaOctB
set_option autoImplicit false
set_option maxRecDepth 100000
set_option linter.unusedVariables false
set_option linter.unusedSimpArgs false
namespace Go.Proofs.Ytjkkhbeidhpghaa.L
open Go Go.Abs

noncomputable def tMk4 : Tbl := [(39, entF ePut16), (40, entF eBytes), (54, entF eSum)]
theorem tMk4Ok : ∀ f E, tMk4.find f = some E → SoundE Try.prog f E := find_cons sPut16 (find_cons sABytes (find_cons sSum (find_nil _)))
noncomputable def tRMk4 : Tbl := [(23, entF eRSum)]
theorem tRMk4Ok : ∀ f E, tRMk4.find f = some E → SoundE Try.prog f E := find_cons sRSum (find_nil _)

noncomputable def hMk4TT0 (pr n : Int) (X Y : List UInt8) : AHeap := [ABlk.cells (AV.bool true :: bys X) 17 Md.own none, ABlk.cells (AV.bool true :: bys Y) 17 Md.own none]
theorem nfMk4TT {R : Type} (pr n : Int) (X Y : List UInt8) (K : AV → AHeap → Option R) :
 qrun Try.prog tMk4 100 4 [] [] 27 [.agg (.bool true :: bys X), .agg (.bool true :: bys Y), .int .u8 pr, .int .i64 n] [] K =
 K (AV.tup [AV.sl none 0 0 true, AV.bool false]) ((hMk4TT0 pr n X Y)) := by
  kernel_rfl

noncomputable def hMk4TF0 (pr n : Int) (X Y : List UInt8) : AHeap := [ABlk.cells (AV.bool true :: bys X) 17 Md.own none, ABlk.cells (AV.bool false :: bys Y) 17 Md.own none]
theorem nfMk4TF {R : Type} (pr n : Int) (X Y : List UInt8) (K : AV → AHeap → Option R) :
 qrun Try.prog tMk4 100 4 [] [] 27 [.agg (.bool true :: bys X), .agg (.bool false :: bys Y), .int .u8 pr, .int .i64 n] [] K =
 K (AV.tup [AV.sl none 0 0 true, AV.bool false]) ((hMk4TF0 pr n X Y)) := by
  kernel_rfl

noncomputable def hMk4FT0 (pr n : Int) (X Y : List UInt8) : AHeap := [ABlk.cells (AV.bool false :: bys X) 17 Md.own none, ABlk.cells (AV.bool true :: bys Y) 17 Md.own none]
theorem nfMk4FT {R : Type} (pr n : Int) (X Y : List UInt8) (K : AV → AHeap → Option R) :
 qrun Try.prog tMk4 100 4 [] [] 27 [.agg (.bool false :: bys X), .agg (.bool true :: bys Y), .int .u8 pr, .int .i64 n] [] K =
 K (AV.tup [AV.sl none 0 0 true, AV.bool false]) ((hMk4FT0 pr n X Y)) := by
  kernel_rfl

noncomputable def hMk4FF0 (pr n : Int) (a b c d : UInt8) (X : List AV) (e f g i : UInt8) (Y : List AV) : AHeap := [ABlk.cells (AV.bool false :: AV.int IntKind.u8 (a.toNat : Int) :: AV.int IntKind.u8 (b.toNat : Int) :: AV.int IntKind.u8 (c.toNat : Int) :: AV.int IntKind.u8 (d.toNat : Int) :: X) 17 Md.own none, ABlk.cells (AV.bool false :: AV.int IntKind.u8 (e.toNat : Int) :: AV.int IntKind.u8 (f.toNat : Int) :: AV.int IntKind.u8 (g.toNat : Int) :: AV.int IntKind.u8 (i.toNat : Int) :: Y) 17 Md.own none]
noncomputable def hMk4FF1 (pr n : Int) (a b c d : UInt8) (X : List AV) (e f g i : UInt8) (Y : List AV) : AHeap := [ABlk.cells (AV.bool false :: AV.int IntKind.u8 (a.toNat : Int) :: AV.int IntKind.u8 (b.toNat : Int) :: AV.int IntKind.u8 (c.toNat : Int) :: AV.int IntKind.u8 (d.toNat : Int) :: X) 17 Md.own none, ABlk.cells (AV.bool false :: AV.int IntKind.u8 (e.toNat : Int) :: AV.int IntKind.u8 (f.toNat : Int) :: AV.int IntKind.u8 (g.toNat : Int) :: AV.int IntKind.u8 (i.toNat : Int) :: Y) 17 Md.own none, ABlk.cells [AV.int IntKind.u8 (((byteD (AV.int IntKind.u8 (((byteD (AV.int IntKind.u8 69)).toNat : Nat) : Int))).toNat : Nat) : Int), AV.int IntKind.u8 0, AV.int IntKind.u8 (((byteD (AV.int IntKind.u8 (((u8i ((IntKind.u16.wrap (IntKind.i64.wrap (20 + n))).fdiv 256)).toNat : Nat) : Int))).toNat : Nat) : Int), AV.int IntKind.u8 (((byteD (AV.int IntKind.u8 (((u8i ((IntKind.u16.wrap (IntKind.i64.wrap (20 + n))).fdiv 1)).toNat : Nat) : Int))).toNat : Nat) : Int), AV.int IntKind.u8 0, AV.int IntKind.u8 0, AV.int IntKind.u8 64, AV.int IntKind.u8 0, AV.int IntKind.u8 (((byteD (AV.int IntKind.u8 (((byteD (AV.int IntKind.u8 64)).toNat : Nat) : Int))).toNat : Nat) : Int), AV.int IntKind.u8 (((byteD (AV.int IntKind.u8 (((byteD (AV.int IntKind.u8 pr)).toNat : Nat) : Int))).toNat : Nat) : Int), AV.int IntKind.u8 0, AV.int IntKind.u8 0, AV.int IntKind.u8 (((byteD (AV.int IntKind.u8 (a.toNat : Int))).toNat : Nat) : Int), AV.int IntKind.u8 (((byteD (AV.int IntKind.u8 (b.toNat : Int))).toNat : Nat) : Int), AV.int IntKind.u8 (((byteD (AV.int IntKind.u8 (c.toNat : Int))).toNat : Nat) : Int), AV.int IntKind.u8 (((byteD (AV.int IntKind.u8 (d.toNat : Int))).toNat : Nat) : Int), AV.int IntKind.u8 (((byteD (AV.int IntKind.u8 (e.toNat : Int))).toNat : Nat) : Int), AV.int IntKind.u8 (((byteD (AV.int IntKind.u8 (f.toNat : Int))).toNat : Nat) : Int), AV.int IntKind.u8 (((byteD (AV.int IntKind.u8 (g.toNat : Int))).toNat : Nat) : Int), AV.int IntKind.u8 (((byteD (AV.int IntKind.u8 (i.toNat : Int))).toNat : Nat) : Int)] 1 Md.own none, ABlk.cells [AV.int IntKind.u8 (((byteD (AV.int IntKind.u8 (a.toNat : Int))).toNat : Nat) : Int), AV.int IntKind.u8 (((byteD (AV.int IntKind.u8 (b.toNat : Int))).toNat : Nat) : Int), AV.int IntKind.u8 (((byteD (AV.int IntKind.u8 (c.toNat : Int))).toNat : Nat) : Int), AV.int IntKind.u8 (((byteD (AV.int IntKind.u8 (d.toNat : Int))).toNat : Nat) : Int)] 1 Md.own none, ABlk.cells [AV.int IntKind.u8 (((byteD (AV.int IntKind.u8 (e.toNat : Int))).toNat : Nat) : Int), AV.int IntKind.u8 (((byteD (AV.int IntKind.u8 (f.toNat : Int))).toNat : Nat) : Int), AV.int IntKind.u8 (((byteD (AV.int IntKind.u8 (g.toNat : Int))).toNat : Nat) : Int), AV.int IntKind.u8 (((byteD (AV.int IntKind.u8 (i.toNat : Int))).toNat : Nat) : Int)] 1 Md.own none]
noncomputable def hMk4FF2 (pr n : Int) (a b c d : UInt8) (X : List AV) (e f g i : UInt8) (Y : List AV) : AHeap := [ABlk.cells (AV.bool false :: AV.int IntKind.u8 (a.toNat : Int) :: AV.int IntKind.u8 (b.toNat : Int) :: AV.int IntKind.u8 (c.toNat : Int) :: AV.int IntKind.u8 (d.toNat : Int) :: X) 17 Md.own none, ABlk.cells (AV.bool false :: AV.int IntKind.u8 (e.toNat : Int) :: AV.int IntKind.u8 (f.toNat : Int) :: AV.int IntKind.u8 (g.toNat : Int) :: AV.int IntKind.u8 (i.toNat : Int) :: Y) 17 Md.own none, ABlk.cells [AV.int IntKind.u8 (((byteD (AV.int IntKind.u8 (((byteD (AV.int IntKind.u8 (((byteD (AV.int IntKind.u8 69)).toNat : Nat) : Int))).toNat : Nat) : Int))).toNat : Nat) : Int), AV.int IntKind.u8 0, AV.int IntKind.u8 (((byteD (AV.int IntKind.u8 (((byteD (AV.int IntKind.u8 (((u8i ((IntKind.u16.wrap (IntKind.i64.wrap (20 + n))).fdiv 256)).toNat : Nat) : Int))).toNat : Nat) : Int))).toNat : Nat) : Int), AV.int IntKind.u8 (((byteD (AV.int IntKind.u8 (((byteD (AV.int IntKind.u8 (((u8i ((IntKind.u16.wrap (IntKind.i64.wrap (20 + n))).fdiv 1)).toNat : Nat) : Int))).toNat : Nat) : Int))).toNat : Nat) : Int), AV.int IntKind.u8 0, AV.int IntKind.u8 0, AV.int IntKind.u8 64, AV.int IntKind.u8 0, AV.int IntKind.u8 (((byteD (AV.int IntKind.u8 (((byteD (AV.int IntKind.u8 (((byteD (AV.int IntKind.u8 64)).toNat : Nat) : Int))).toNat : Nat) : Int))).toNat : Nat) : Int), AV.int IntKind.u8 (((byteD (AV.int IntKind.u8 (((byteD (AV.int IntKind.u8 (((byteD (AV.int IntKind.u8 pr)).toNat : Nat) : Int))).toNat : Nat) : Int))).toNat : Nat) : Int), AV.int IntKind.u8 (((u8i ((abits IntKind.u16 (· ^^^ ·) 65535 (sumI (bOf (hMk4FF1 pr n a b c d X e f g i Y) (AV.sl (some (2, 0)) 20 0 false)) 0)).fdiv 256)).toNat : Nat) : Int), AV.int IntKind.u8 (((u8i ((abits IntKind.u16 (· ^^^ ·) 65535 (sumI (bOf (hMk4FF1 pr n a b c d X e f g i Y) (AV.sl (some (2, 0)) 20 0 false)) 0)).fdiv 1)).toNat : Nat) : Int), AV.int IntKind.u8 (((byteD (AV.int IntKind.u8 (((byteD (AV.int IntKind.u8 (a.toNat : Int))).toNat : Nat) : Int))).toNat : Nat) : Int), AV.int IntKind.u8 (((byteD (AV.int IntKind.u8 (((byteD (AV.int IntKind.u8 (b.toNat : Int))).toNat : Nat) : Int))).toNat : Nat) : Int), AV.int IntKind.u8 (((byteD (AV.int IntKind.u8 (((byteD (AV.int IntKind.u8 (c.toNat : Int))).toNat : Nat) : Int))).toNat : Nat) : Int), AV.int IntKind.u8 (((byteD (AV.int IntKind.u8 (((byteD (AV.int IntKind.u8 (d.toNat : Int))).toNat : Nat) : Int))).toNat : Nat) : Int), AV.int IntKind.u8 (((byteD (AV.int IntKind.u8 (((byteD (AV.int IntKind.u8 (e.toNat : Int))).toNat : Nat) : Int))).toNat : Nat) : Int), AV.int IntKind.u8 (((byteD (AV.int IntKind.u8 (((byteD (AV.int IntKind.u8 (f.toNat : Int))).toNat : Nat) : Int))).toNat : Nat) : Int), AV.int IntKind.u8 (((byteD (AV.int IntKind.u8 (((byteD (AV.int IntKind.u8 (g.toNat : Int))).toNat : Nat) : Int))).toNat : Nat) : Int), AV.int IntKind.u8 (((byteD (AV.int IntKind.u8 (((byteD (AV.int IntKind.u8 (i.toNat : Int))).toNat : Nat) : Int))).toNat : Nat) : Int)] 1 Md.own none, ABlk.cells [AV.int IntKind.u8 (((byteD (AV.int IntKind.u8 (a.toNat : Int))).toNat : Nat) : Int), AV.int IntKind.u8 (((byteD (AV.int IntKind.u8 (b.toNat : Int))).toNat : Nat) : Int), AV.int IntKind.u8 (((byteD (AV.int IntKind.u8 (c.toNat : Int))).toNat : Nat) : Int), AV.int IntKind.u8 (((byteD (AV.int IntKind.u8 (d.toNat : Int))).toNat : Nat) : Int)] 1 Md.own none, ABlk.cells [AV.int IntKind.u8 (((byteD (AV.int IntKind.u8 (e.toNat : Int))).toNat : Nat) : Int), AV.int IntKind.u8 (((byteD (AV.int IntKind.u8 (f.toNat : Int))).toNat : Nat) : Int), AV.int IntKind.u8 (((byteD (AV.int IntKind.u8 (g.toNat : Int))).toNat : Nat) : Int), AV.int IntKind.u8 (((byteD (AV.int IntKind.u8 (i.toNat : Int))).toNat : Nat) : Int)] 1 Md.own none]
theorem nfMk4FF {R : Type} (pr n : Int) (a b c d : UInt8) (X : List AV) (e f g i : UInt8) (Y : List AV) (K : AV → AHeap → Option R) :
 qrun Try.prog tMk4 100 4 [] [] 27 [.agg (.bool false :: adr4c a b c d X), .agg (.bool false :: adr4c e f g i Y), .int .u8 pr, .int .i64 n] [] K =
 (if decide (n < 0) = true then
 K (AV.tup [AV.sl none 0 0 true, AV.bool false]) ((hMk4FF0 pr n a b c d X e f g i Y))
 else (if decide (n > 65515) = true then
 K (AV.tup [AV.sl none 0 0 true, AV.bool false]) ((hMk4FF0 pr n a b c d X e f g i Y))
 else (if cdec (0 = 0 ∧ 0 = 0 ∧ false = false ∧ 1 = 1 ∧ 20 = [AV.int IntKind.u8 69, AV.int IntKind.u8 0, AV.int IntKind.u8 0, AV.int IntKind.u8 0, AV.int IntKind.u8 0, AV.int IntKind.u8 0, AV.int IntKind.u8 0, AV.int IntKind.u8 0, AV.int IntKind.u8 64, AV.int IntKind.u8 pr, AV.int IntKind.u8 0, AV.int IntKind.u8 0, AV.int IntKind.u8 0, AV.int IntKind.u8 0, AV.int IntKind.u8 0, AV.int IntKind.u8 0, AV.int IntKind.u8 0, AV.int IntKind.u8 0, AV.int IntKind.u8 0, AV.int IntKind.u8 0].length ∧ 20 ≤ 1000000000000 ∧ [AV.int IntKind.u8 69, AV.int IntKind.u8 0, AV.int IntKind.u8 0, AV.int IntKind.u8 0, AV.int IntKind.u8 0, AV.int IntKind.u8 0, AV.int IntKind.u8 0, AV.int IntKind.u8 0, AV.int IntKind.u8 64, AV.int IntKind.u8 pr, AV.int IntKind.u8 0, AV.int IntKind.u8 0, AV.int IntKind.u8 0, AV.int IntKind.u8 0, AV.int IntKind.u8 0, AV.int IntKind.u8 0, AV.int IntKind.u8 0, AV.int IntKind.u8 0, AV.int IntKind.u8 0, AV.int IntKind.u8 0].all isByteR = true ∧ 0 ≤ IntKind.u16.wrap (IntKind.i64.wrap (20 + n)) ∧ IntKind.u16.wrap (IntKind.i64.wrap (20 + n)) < 65536 ∧ none ≠ some 2) = true then
 (if cdec (0 = 0 ∧ 0 = 0 ∧ false = false ∧ 1 = 1 ∧ 20 = [AV.int IntKind.u8 (((byteD (AV.int IntKind.u8 69)).toNat : Nat) : Int), AV.int IntKind.u8 0, AV.int IntKind.u8 (((u8i ((IntKind.u16.wrap (IntKind.i64.wrap (20 + n))).fdiv 256)).toNat : Nat) : Int), AV.int IntKind.u8 (((u8i ((IntKind.u16.wrap (IntKind.i64.wrap (20 + n))).fdiv 1)).toNat : Nat) : Int), AV.int IntKind.u8 0, AV.int IntKind.u8 0, AV.int IntKind.u8 0, AV.int IntKind.u8 0, AV.int IntKind.u8 (((byteD (AV.int IntKind.u8 64)).toNat : Nat) : Int), AV.int IntKind.u8 (((byteD (AV.int IntKind.u8 pr)).toNat : Nat) : Int), AV.int IntKind.u8 0, AV.int IntKind.u8 0, AV.int IntKind.u8 0, AV.int IntKind.u8 0, AV.int IntKind.u8 0, AV.int IntKind.u8 0, AV.int IntKind.u8 0, AV.int IntKind.u8 0, AV.int IntKind.u8 0, AV.int IntKind.u8 0].length ∧ 20 ≤ 1000000000000 ∧ [AV.int IntKind.u8 (((byteD (AV.int IntKind.u8 69)).toNat : Nat) : Int), AV.int IntKind.u8 0, AV.int IntKind.u8 (((u8i ((IntKind.u16.wrap (IntKind.i64.wrap (20 + n))).fdiv 256)).toNat : Nat) : Int), AV.int IntKind.u8 (((u8i ((IntKind.u16.wrap (IntKind.i64.wrap (20 + n))).fdiv 1)).toNat : Nat) : Int), AV.int IntKind.u8 0, AV.int IntKind.u8 0, AV.int IntKind.u8 0, AV.int IntKind.u8 0, AV.int IntKind.u8 (((byteD (AV.int IntKind.u8 64)).toNat : Nat) : Int), AV.int IntKind.u8 (((byteD (AV.int IntKind.u8 pr)).toNat : Nat) : Int), AV.int IntKind.u8 0, AV.int IntKind.u8 0, AV.int IntKind.u8 0, AV.int IntKind.u8 0, AV.int IntKind.u8 0, AV.int IntKind.u8 0, AV.int IntKind.u8 0, AV.int IntKind.u8 0, AV.int IntKind.u8 0, AV.int IntKind.u8 0].all isByteR = true ∧ Int.ofNat 0 ≤ Int.ofNat 16384 ∧ Int.ofNat 16384 < Int.ofNat 65536 ∧ none ≠ some 2) = true then
 (if 17 ≤ (AV.bool false :: AV.int IntKind.u8 (a.toNat : Int) :: AV.int IntKind.u8 (b.toNat : Int) :: AV.int IntKind.u8 (c.toNat : Int) :: AV.int IntKind.u8 (d.toNat : Int) :: X).length then
 (if adrWf (List.take 17 (AV.bool false :: AV.int IntKind.u8 (a.toNat : Int) :: AV.int IntKind.u8 (b.toNat : Int) :: AV.int IntKind.u8 (c.toNat : Int) :: AV.int IntKind.u8 (d.toNat : Int) :: X)) = true then
 (if 17 ≤ (AV.bool false :: AV.int IntKind.u8 (e.toNat : Int) :: AV.int IntKind.u8 (f.toNat : Int) :: AV.int IntKind.u8 (g.toNat : Int) :: AV.int IntKind.u8 (i.toNat : Int) :: Y).length then
 (if adrWf (List.take 17 (AV.bool false :: AV.int IntKind.u8 (e.toNat : Int) :: AV.int IntKind.u8 (f.toNat : Int) :: AV.int IntKind.u8 (g.toNat : Int) :: AV.int IntKind.u8 (i.toNat : Int) :: Y)) = true then
 (if (bOk (hMk4FF1 pr n a b c d X e f g i Y) (AV.sl (some (2, 0)) 20 0 false) && decide (nOf (AV.sl (some (2, 0)) 20 0 false) ≤ 70368744177664 ∧ Int.ofNat 0 ≤ Int.ofNat 0 ∧ Int.ofNat 0 < Int.ofNat 4294967296)) = true then
 (if cdec (0 = 0 ∧ 0 = 0 ∧ false = false ∧ 1 = 1 ∧ 20 = [AV.int IntKind.u8 (((byteD (AV.int IntKind.u8 (((byteD (AV.int IntKind.u8 69)).toNat : Nat) : Int))).toNat : Nat) : Int), AV.int IntKind.u8 0, AV.int IntKind.u8 (((byteD (AV.int IntKind.u8 (((u8i ((IntKind.u16.wrap (IntKind.i64.wrap (20 + n))).fdiv 256)).toNat : Nat) : Int))).toNat : Nat) : Int), AV.int IntKind.u8 (((byteD (AV.int IntKind.u8 (((u8i ((IntKind.u16.wrap (IntKind.i64.wrap (20 + n))).fdiv 1)).toNat : Nat) : Int))).toNat : Nat) : Int), AV.int IntKind.u8 0, AV.int IntKind.u8 0, AV.int IntKind.u8 64, AV.int IntKind.u8 0, AV.int IntKind.u8 (((byteD (AV.int IntKind.u8 (((byteD (AV.int IntKind.u8 64)).toNat : Nat) : Int))).toNat : Nat) : Int), AV.int IntKind.u8 (((byteD (AV.int IntKind.u8 (((byteD (AV.int IntKind.u8 pr)).toNat : Nat) : Int))).toNat : Nat) : Int), AV.int IntKind.u8 0, AV.int IntKind.u8 0, AV.int IntKind.u8 (((byteD (AV.int IntKind.u8 (a.toNat : Int))).toNat : Nat) : Int), AV.int IntKind.u8 (((byteD (AV.int IntKind.u8 (b.toNat : Int))).toNat : Nat) : Int), AV.int IntKind.u8 (((byteD (AV.int IntKind.u8 (c.toNat : Int))).toNat : Nat) : Int), AV.int IntKind.u8 (((byteD (AV.int IntKind.u8 (d.toNat : Int))).toNat : Nat) : Int), AV.int IntKind.u8 (((byteD (AV.int IntKind.u8 (e.toNat : Int))).toNat : Nat) : Int), AV.int IntKind.u8 (((byteD (AV.int IntKind.u8 (f.toNat : Int))).toNat : Nat) : Int), AV.int IntKind.u8 (((byteD (AV.int IntKind.u8 (g.toNat : Int))).toNat : Nat) : Int), AV.int IntKind.u8 (((byteD (AV.int IntKind.u8 (i.toNat : Int))).toNat : Nat) : Int)].length ∧ 20 ≤ 1000000000000 ∧ [AV.int IntKind.u8 (((byteD (AV.int IntKind.u8 (((byteD (AV.int IntKind.u8 69)).toNat : Nat) : Int))).toNat : Nat) : Int), AV.int IntKind.u8 0, AV.int IntKind.u8 (((byteD (AV.int IntKind.u8 (((u8i ((IntKind.u16.wrap (IntKind.i64.wrap (20 + n))).fdiv 256)).toNat : Nat) : Int))).toNat : Nat) : Int), AV.int IntKind.u8 (((byteD (AV.int IntKind.u8 (((u8i ((IntKind.u16.wrap (IntKind.i64.wrap (20 + n))).fdiv 1)).toNat : Nat) : Int))).toNat : Nat) : Int), AV.int IntKind.u8 0, AV.int IntKind.u8 0, AV.int IntKind.u8 64, AV.int IntKind.u8 0, AV.int IntKind.u8 (((byteD (AV.int IntKind.u8 (((byteD (AV.int IntKind.u8 64)).toNat : Nat) : Int))).toNat : Nat) : Int), AV.int IntKind.u8 (((byteD (AV.int IntKind.u8 (((byteD (AV.int IntKind.u8 pr)).toNat : Nat) : Int))).toNat : Nat) : Int), AV.int IntKind.u8 0, AV.int IntKind.u8 0, AV.int IntKind.u8 (((byteD (AV.int IntKind.u8 (a.toNat : Int))).toNat : Nat) : Int), AV.int IntKind.u8 (((byteD (AV.int IntKind.u8 (b.toNat : Int))).toNat : Nat) : Int), AV.int IntKind.u8 (((byteD (AV.int IntKind.u8 (c.toNat : Int))).toNat : Nat) : Int), AV.int IntKind.u8 (((byteD (AV.int IntKind.u8 (d.toNat : Int))).toNat : Nat) : Int), AV.int IntKind.u8 (((byteD (AV.int IntKind.u8 (e.toNat : Int))).toNat : Nat) : Int), AV.int IntKind.u8 (((byteD (AV.int IntKind.u8 (f.toNat : Int))).toNat : Nat) : Int), AV.int IntKind.u8 (((byteD (AV.int IntKind.u8 (g.toNat : Int))).toNat : Nat) : Int), AV.int IntKind.u8 (((byteD (AV.int IntKind.u8 (i.toNat : Int))).toNat : Nat) : Int)].all isByteR = true ∧ 0 ≤ abits IntKind.u16 (· ^^^ ·) 65535 (sumI (bOf (hMk4FF1 pr n a b c d X e f g i Y) (AV.sl (some (2, 0)) 20 0 false)) 0) ∧ abits IntKind.u16 (· ^^^ ·) 65535 (sumI (bOf (hMk4FF1 pr n a b c d X e f g i Y) (AV.sl (some (2, 0)) 20 0 false)) 0) < 65536 ∧ none ≠ some 2) = true then
 K (AV.tup [AV.sl (some (2, 0)) 20 0 false, AV.bool true]) ((hMk4FF2 pr n a b c d X e f g i Y))
 else none) else none) else none) else none) else none) else none) else none) else none))) := by
  kernel_rfl

noncomputable def hRMk4TT0 (pr n : Int) (X Y : List UInt8) : AHeap := [ABlk.cells (AV.bool true :: bys X) 17 Md.own none, ABlk.cells (AV.bool true :: bys Y) 17 Md.own none]
theorem nfRMk4TT {R : Type} (pr n : Int) (X Y : List UInt8) (K : AV → AHeap → Option R) :
 qrun Try.prog tRMk4 100 4 [] [] 18 [.agg (.bool true :: bys X), .agg (.bool true :: bys Y), .int .u8 pr, .int .i64 n] [] K =
 K (AV.tup [AV.sl none 0 0 true, AV.bool false]) ((hRMk4TT0 pr n X Y)) := by
  kernel_rfl

noncomputable def hRMk4TF0 (pr n : Int) (X Y : List UInt8) : AHeap := [ABlk.cells (AV.bool true :: bys X) 17 Md.own none, ABlk.cells (AV.bool false :: bys Y) 17 Md.own none]
theorem nfRMk4TF {R : Type} (pr n : Int) (X Y : List UInt8) (K : AV → AHeap → Option R) :
 qrun Try.prog tRMk4 100 4 [] [] 18 [.agg (.bool true :: bys X), .agg (.bool false :: bys Y), .int .u8 pr, .int .i64 n] [] K =
 K (AV.tup [AV.sl none 0 0 true, AV.bool false]) ((hRMk4TF0 pr n X Y)) := by
  kernel_rfl

noncomputable def hRMk4FT0 (pr n : Int) (X Y : List UInt8) : AHeap := [ABlk.cells (AV.bool false :: bys X) 17 Md.own none, ABlk.cells (AV.bool true :: bys Y) 17 Md.own none]
theorem nfRMk4FT {R : Type} (pr n : Int) (X Y : List UInt8) (K : AV → AHeap → Option R) :
 qrun Try.prog tRMk4 100 4 [] [] 18 [.agg (.bool false :: bys X), .agg (.bool true :: bys Y), .int .u8 pr, .int .i64 n] [] K =
 K (AV.tup [AV.sl none 0 0 true, AV.bool false]) ((hRMk4FT0 pr n X Y)) := by
  kernel_rfl

noncomputable def hRMk4FF0 (pr n : Int) (a b c d : UInt8) (X : List AV) (e f g i : UInt8) (Y : List AV) : AHeap := [ABlk.cells (AV.bool false :: AV.int IntKind.u8 (a.toNat : Int) :: AV.int IntKind.u8 (b.toNat : Int) :: AV.int IntKind.u8 (c.toNat : Int) :: AV.int IntKind.u8 (d.toNat : Int) :: X) 17 Md.own none, ABlk.cells (AV.bool false :: AV.int IntKind.u8 (e.toNat : Int) :: AV.int IntKind.u8 (f.toNat : Int) :: AV.int IntKind.u8 (g.toNat : Int) :: AV.int IntKind.u8 (i.toNat : Int) :: Y) 17 Md.own none]
noncomputable def hRMk4FF1 (pr n : Int) (a b c d : UInt8) (X : List AV) (e f g i : UInt8) (Y : List AV) : AHeap := [ABlk.cells (AV.bool false :: AV.int IntKind.u8 (a.toNat : Int) :: AV.int IntKind.u8 (b.toNat : Int) :: AV.int IntKind.u8 (c.toNat : Int) :: AV.int IntKind.u8 (d.toNat : Int) :: X) 17 Md.own none, ABlk.cells (AV.bool false :: AV.int IntKind.u8 (e.toNat : Int) :: AV.int IntKind.u8 (f.toNat : Int) :: AV.int IntKind.u8 (g.toNat : Int) :: AV.int IntKind.u8 (i.toNat : Int) :: Y) 17 Md.own none, ABlk.cells [AV.int IntKind.u8 69, AV.int IntKind.u8 0, AV.int IntKind.u8 (IntKind.u8.wrap ((IntKind.i64.wrap (20 + n)).fdiv 256)), AV.int IntKind.u8 (IntKind.u8.wrap (IntKind.i64.wrap (20 + n))), AV.int IntKind.u8 0, AV.int IntKind.u8 0, AV.int IntKind.u8 64, AV.int IntKind.u8 0, AV.int IntKind.u8 64, AV.int IntKind.u8 pr, AV.int IntKind.u8 0, AV.int IntKind.u8 0, AV.int IntKind.u8 (intV (some (AV.int IntKind.u8 (a.toNat : Int)))), AV.int IntKind.u8 (intV (some (AV.int IntKind.u8 (b.toNat : Int)))), AV.int IntKind.u8 (intV (some (AV.int IntKind.u8 (c.toNat : Int)))), AV.int IntKind.u8 (intV (some (AV.int IntKind.u8 (d.toNat : Int)))), AV.int IntKind.u8 (intV (some (AV.int IntKind.u8 (e.toNat : Int)))), AV.int IntKind.u8 (intV (some (AV.int IntKind.u8 (f.toNat : Int)))), AV.int IntKind.u8 (intV (some (AV.int IntKind.u8 (g.toNat : Int)))), AV.int IntKind.u8 (intV (some (AV.int IntKind.u8 (i.toNat : Int))))] 1 Md.own none]
noncomputable def hRMk4FF2 (pr n : Int) (a b c d : UInt8) (X : List AV) (e f g i : UInt8) (Y : List AV) : AHeap := [ABlk.cells (AV.bool false :: AV.int IntKind.u8 (a.toNat : Int) :: AV.int IntKind.u8 (b.toNat : Int) :: AV.int IntKind.u8 (c.toNat : Int) :: AV.int IntKind.u8 (d.toNat : Int) :: X) 17 Md.own none, ABlk.cells (AV.bool false :: AV.int IntKind.u8 (e.toNat : Int) :: AV.int IntKind.u8 (f.toNat : Int) :: AV.int IntKind.u8 (g.toNat : Int) :: AV.int IntKind.u8 (i.toNat : Int) :: Y) 17 Md.own none, ABlk.cells [AV.int IntKind.u8 69, AV.int IntKind.u8 0, AV.int IntKind.u8 (IntKind.u8.wrap ((IntKind.i64.wrap (20 + n)).fdiv 256)), AV.int IntKind.u8 (IntKind.u8.wrap (IntKind.i64.wrap (20 + n))), AV.int IntKind.u8 0, AV.int IntKind.u8 0, AV.int IntKind.u8 64, AV.int IntKind.u8 0, AV.int IntKind.u8 64, AV.int IntKind.u8 pr, AV.int IntKind.u8 (IntKind.u8.wrap ((IntKind.i64.wrap (65535 - sumI (bOf (hRMk4FF1 pr n a b c d X e f g i Y) (AV.sl (some (2, 0)) 20 0 false)) 0)).fdiv 256)), AV.int IntKind.u8 (IntKind.u8.wrap (IntKind.i64.wrap (65535 - sumI (bOf (hRMk4FF1 pr n a b c d X e f g i Y) (AV.sl (some (2, 0)) 20 0 false)) 0))), AV.int IntKind.u8 (intV (some (AV.int IntKind.u8 (a.toNat : Int)))), AV.int IntKind.u8 (intV (some (AV.int IntKind.u8 (b.toNat : Int)))), AV.int IntKind.u8 (intV (some (AV.int IntKind.u8 (c.toNat : Int)))), AV.int IntKind.u8 (intV (some (AV.int IntKind.u8 (d.toNat : Int)))), AV.int IntKind.u8 (intV (some (AV.int IntKind.u8 (e.toNat : Int)))), AV.int IntKind.u8 (intV (some (AV.int IntKind.u8 (f.toNat : Int)))), AV.int IntKind.u8 (intV (some (AV.int IntKind.u8 (g.toNat : Int)))), AV.int IntKind.u8 (intV (some (AV.int IntKind.u8 (i.toNat : Int))))] 1 Md.own none]
theorem nfRMk4FF {R : Type} (pr n : Int) (a b c d : UInt8) (X : List AV) (e f g i : UInt8) (Y : List AV) (K : AV → AHeap → Option R) :
 qrun Try.prog tRMk4 100 4 [] [] 18 [.agg (.bool false :: adr4c a b c d X), .agg (.bool false :: adr4c e f g i Y), .int .u8 pr, .int .i64 n] [] K =
 (if decide (n < 0) = true then
 K (AV.tup [AV.sl none 0 0 true, AV.bool false]) ((hRMk4FF0 pr n a b c d X e f g i Y))
 else (if decide (n > 65515) = true then
 K (AV.tup [AV.sl none 0 0 true, AV.bool false]) ((hRMk4FF0 pr n a b c d X e f g i Y))
 else (if (bOk (hRMk4FF1 pr n a b c d X e f g i Y) (AV.sl (some (2, 0)) 20 0 false) && decide (nOf (AV.sl (some (2, 0)) 20 0 false) ≤ 70368744177664 ∧ Int.ofNat 0 ≤ Int.ofNat 0 ∧ Int.ofNat 0 < Int.ofNat 4294967296)) = true then
 K (AV.tup [AV.sl (some (2, 0)) 20 0 false, AV.bool true]) ((hRMk4FF2 pr n a b c d X e f g i Y))
 else none))) := by
  kernel_rfl


theorem rowMk41 {pr n : Int} {a b c d e f g i : UInt8} {X Y : List UInt8} (hn : 0 ≤ n ∧ n ≤ 65515) (hp : 0 ≤ pr ∧ pr < 256) : (hMk4FF1 pr n a b c d (bys X) e f g i (bys Y))[2]? = some (.cells (bys (base4 pr n [a, b, c, d] [e, f, g, i])) 1 Md.own none) := by
  have w0 : IntKind.u16.wrap (IntKind.i64.wrap (20 + n)) = 20 + n := by rw [wrapI64 (by omega), wrapU16 (by omega)]
  have w1 : (20 + n).fdiv 256 = (20 + n) / 256 := Int.fdiv_eq_ediv_of_nonneg _ (by omega)
  have w2 : (20 + n).fdiv 1 = 20 + n := by rw [Int.fdiv_eq_ediv_of_nonneg _ (by omega), Int.ediv_one]
  have w3 : byteD (.int .u8 pr) = u8i pr := byteD_i8 hp
  unfold hMk4FF1
  refine rfl.trans (congrArg some (congrArg (fun z => ABlk.cells z 1 Md.own none) ?_))
  simp only [byteD_u8, w0, w1, w2, w3]
  rfl
theorem rowMk42 {pr n : Int} {a b c d e f g i : UInt8} {X Y : List UInt8} (hn : 0 ≤ n ∧ n ≤ 65515) (hp : 0 ≤ pr ∧ pr < 256) : (hMk4FF2 pr n a b c d (bys X) e f g i (bys Y))[2]? = some (.cells (bys (hdr4 pr n [a, b, c, d] [e, f, g, i])) 1 Md.own none) := by
  have w0 : IntKind.u16.wrap (IntKind.i64.wrap (20 + n)) = 20 + n := by rw [wrapI64 (by omega), wrapU16 (by omega)]
  have w1 : (20 + n).fdiv 256 = (20 + n) / 256 := Int.fdiv_eq_ediv_of_nonneg _ (by omega)
  have w2 : (20 + n).fdiv 1 = 20 + n := by rw [Int.fdiv_eq_ediv_of_nonneg _ (by omega), Int.ediv_one]
  have w3 : byteD (.int .u8 pr) = u8i pr := byteD_i8 hp
  have hf := (bOk_row (n := 20) (r := 0) (e := false) (rowMk41 (X := X) (Y := Y) (a := a) (b := b) (c := c) (d := d) (e := e) (f := f) (g := g) (i := i) hn hp) rfl rfl).2
  have hx : abits .u16 (· ^^^ ·) 65535 (sumI (base4 pr n [a, b, c, d] [e, f, g, i]) 0) = chkI (base4 pr n [a, b, c, d] [e, f, g, i]) := xor16 (sumI_range _ 0)
  unfold hMk4FF2
  refine rfl.trans (congrArg some (congrArg (fun z => ABlk.cells z 1 Md.own none) ?_))
  simp only [byteD_u8, w0, w1, w2, w3, hf, hx]
  rfl
set_option maxHeartbeats 2000000 in
theorem runMk4F (X Y : List UInt8) (a b c d e f g i : UInt8) (pr n : Int) (hX : X.length = 12) (hY : Y.length = 12) (hn : 0 ≤ n ∧ n ≤ 65515) (hp : 0 ≤ pr ∧ pr < 256) :
    qrun Try.prog tMk4 100 4 [] [] 27 [.agg (.bool false :: adr4c a b c d (bys X)), .agg (.bool false :: adr4c e f g i (bys Y)), .int .u8 pr, .int .i64 n] [] (fun v h => some (v, h)) = some (.tup [.sl (some (2, 0)) 20 0 false, .bool true], hMk4FF2 pr n a b c d (bys X) e f g i (bys Y)) := by
  obtain ⟨e17, eW, eB⟩ := adr4_facts (a := a) (b := b) (c := c) (d := d) hX
  obtain ⟨f17, fW, fB⟩ := adr4_facts (a := e) (b := f) (c := g) (d := i) hY
  have wn : IntKind.u16.wrap (IntKind.i64.wrap (20 + n)) = 20 + n := by rw [wrapI64 (by omega), wrapU16 (by omega)]
  have wn2 : IntKind.i64.wrap (20 + n) = 20 + n := wrapI64 (by omega)
  have wn3 : IntKind.u16.wrap (20 + n) = 20 + n := wrapU16 (by omega)
  have hf := bOk_row (n := 20) (r := 0) (e := false) (rowMk41 (X := X) (Y := Y) (a := a) (b := b) (c := c) (d := d) (e := e) (f := f) (g := g) (i := i) hn hp) rfl rfl
  have hk : (bOk (hMk4FF1 pr n a b c d (bys X) e f g i (bys Y)) (AV.sl (some (2, 0)) 20 0 false) && decide (nOf (AV.sl (some (2, 0)) 20 0 false) ≤ 70368744177664 ∧ Int.ofNat 0 ≤ Int.ofNat 0 ∧ Int.ofNat 0 < Int.ofNat 4294967296)) = true := by rw [hf.1]; decide
  have hx : abits .u16 (· ^^^ ·) 65535 (sumI (base4 pr n [a, b, c, d] [e, f, g, i]) 0) = chkI (base4 pr n [a, b, c, d] [e, f, g, i]) := xor16 (sumI_range _ 0)
  have hcr := chkI_range (base4 pr n [a, b, c, d] [e, f, g, i])
  rw [nfMk4FF]
  rw [if_neg (by simp; omega), if_neg (by simp; omega)]
  simp only [hk, if_true, e17, eW, eB, f17, fW, fB, wn2, wn3, hf.2, hx]
  repeat (first | (refine (if_pos ?_).trans ?_; · first | exact True.intro | omega | (simp [capOf, hX, hY, cdec_true, ↓isByteR_u8, isByteR, hn, hp, hcr]; done) | (simp [capOf, hX, hY, cdec_true, ↓isByteR_u8, isByteR, hn, hp, hcr]; omega)) | (refine (if_neg ?_).trans ?_; · first | omega | (simp [hX, hY, cdec_true, ↓isByteR_u8, isByteR, hn, hp, hcr]; done) | (simp [hX, hY, cdec_true, ↓isByteR_u8, isByteR, hn, hp, hcr]; omega)))
  first | done | rfl

theorem sMk4 : SoundE Try.prog 27 (entF eMk4) := by
  refine canonR_sound fun args h v h' hg => ?_
  unfold eMk4 at hg
  split at hg
  · rename_i cs ds pr n
    simp only [Option.some.injEq, Prod.mk.injEq, Bool.and_eq_true, decide_eq_true_eq] at hg
    obtain ⟨⟨hw, hw2, hp⟩, rfl, rfl⟩ := hg
    obtain ⟨v, X, rfl, hX⟩ := adrWf_B hw
    obtain ⟨u, Y, rfl, hY⟩ := adrWf_B hw2
    refine ⟨[.agg (.bool v :: bys X), .agg (.bool u :: bys Y), .int .u8 pr, .int .i64 n], [], .cons _ _ _ _ _ _ _ (.flat _ _ adrB_free) (.cons _ _ _ _ _ _ _ (.flat _ _ adrB_free) (.cons _ _ _ _ _ _ _ (.flat _ _ rfl) (.cons _ _ _ _ _ _ _ (.flat _ _ rfl) (.nil _)))), ?_⟩
    have none_of : ∀ {v u : Bool} {cs ds : List AV} {h1 : AHeap}, qrun Try.prog tMk4 100 4 [] [] 27 [.agg (.bool v :: cs), .agg (.bool u :: ds), .int .u8 pr, .int .i64 n] [] (fun v h => some (v, h)) = some (.tup [.sl none 0 0 true, .bool false], h1) → ¬ makes4 (.bool v :: cs) (.bool u :: ds) n →
        ∃ v1 h1', Runs Try.prog 27 [.agg (.bool v :: cs), .agg (.bool u :: ds), .int .u8 pr, .int .i64 n] [] v1 h1' ∧ ∃ ks new, h ++ [ownB (make4 (.bool v :: cs) (.bool u :: ds) pr n)] = h ++ new ∧
          Den h1' ([] : AHeap).length h.length ks v1 (.tup [slB h.length (make4 (.bool v :: cs) (.bool u :: ds) pr n), .bool (decide (makes4 (.bool v :: cs) (.bool u :: ds) n))]) new ∧ KsOk ks := by
      intro v u cs ds h1 hq hv
      rw [make4_N hv, decide_eq_false hv]
      exact ⟨_, _, Runs.ofT0 tMk4Ok hq, [none], _, rfl, denRB0, ksOk1 _⟩
    cases v
    · cases u
      · obtain ⟨a, b, c, d, X', hXl, rfl, hX'⟩ := adr4_lit hX
        obtain ⟨e, f, g, i, Y', hYl, rfl, hY'⟩ := adr4_lit hY
        rw [hXl, hYl]
        by_cases h0 : n < 0
        · exact none_of ((nfMk4FF pr n a b c d _ e f g i _ _).trans (if_pos (by simpa using h0))) (fun h => by have := h.2.2; omega)
        by_cases h1 : n > 65515
        · exact none_of ((nfMk4FF pr n a b c d _ e f g i _ _).trans ((if_neg (by simpa using h0)).trans (if_pos (by simpa using h1)))) (fun h => by have := h.2.2; omega)
        have hn : 0 ≤ n ∧ n ≤ 65515 := by omega
        have m1 : makes4 (.bool false :: adr4c a b c d (bys X')) (.bool false :: adr4c e f g i (bys Y')) n := ⟨rfl, rfl, hn.1, hn.2⟩
        have m2 : make4 (.bool false :: adr4c a b c d (bys X')) (.bool false :: adr4c e f g i (bys Y')) pr n = hdr4 pr n [a, b, c, d] [e, f, g, i] := by
          unfold make4
          rw [if_pos m1, show adrBytes (.bool false :: adr4c a b c d (bys X')) = [a, b, c, d] from (adr4_facts hX').2.2, show adrBytes (.bool false :: adr4c e f g i (bys Y')) = [e, f, g, i] from (adr4_facts hY').2.2]
        rw [m2, decide_eq_true m1]
        exact ⟨_, _, Runs.ofT0 tMk4Ok (runMk4F X' Y' a b c d e f g i pr n hX' hY' hn hp), [some 2], _, rfl, denRB (by simp) (rowMk42 hn hp) rfl (by unfold hdr4; rw [setsUp_length]; rfl), ksOk1 _⟩
      · exact none_of (nfMk4FT pr n X Y _) (fun h => by have := h.2.1; simp [adrV6] at this)
    cases u
    · exact none_of (nfMk4TF pr n X Y _) (fun h => by have := h.1; simp [adrV6] at this)
    · exact none_of (nfMk4TT pr n X Y _) (fun h => by have := h.1; simp [adrV6] at this)
  · simp at hg


theorem rowRMk41 {pr n : Int} {a b c d e f g i : UInt8} {X Y : List UInt8} (hn : 0 ≤ n ∧ n ≤ 65515) (hp : 0 ≤ pr ∧ pr < 256) : (hRMk4FF1 pr n a b c d (bys X) e f g i (bys Y))[2]? = some (.cells (bys (base4 pr n [a, b, c, d] [e, f, g, i])) 1 Md.own none) := by
  have w0 : IntKind.i64.wrap (20 + n) = 20 + n := wrapI64 (by omega)
  have w1 : IntKind.u8.wrap ((20 + n).fdiv 256) = ((u8i ((20 + n) / 256)).toNat : Int) := by rw [wrapU8_byte, Int.fdiv_eq_ediv_of_nonneg _ (by omega)]
  have w2 : IntKind.u8.wrap (20 + n) = ((u8i (20 + n)).toNat : Int) := wrapU8_byte _
  have w3 : AV.int .u8 pr = AV.int .u8 (((u8i pr).toNat : Nat) : Int) := by rw [u8i_toNat]; congr 1; omega
  unfold hRMk4FF1
  refine rfl.trans (congrArg some (congrArg (fun z => ABlk.cells z 1 Md.own none) ?_))
  simp only [intV_some, w0, w1, w2]
  rw [w3]
  rfl
theorem rowRMk42 {pr n : Int} {a b c d e f g i : UInt8} {X Y : List UInt8} (hn : 0 ≤ n ∧ n ≤ 65515) (hp : 0 ≤ pr ∧ pr < 256) : (hRMk4FF2 pr n a b c d (bys X) e f g i (bys Y))[2]? = some (.cells (bys (hdr4 pr n [a, b, c, d] [e, f, g, i])) 1 Md.own none) := by
  have w0 : IntKind.i64.wrap (20 + n) = 20 + n := wrapI64 (by omega)
  have w1 : IntKind.u8.wrap ((20 + n).fdiv 256) = ((u8i ((20 + n) / 256)).toNat : Int) := by rw [wrapU8_byte, Int.fdiv_eq_ediv_of_nonneg _ (by omega)]
  have w2 : IntKind.u8.wrap (20 + n) = ((u8i (20 + n)).toNat : Int) := wrapU8_byte _
  have w3 : AV.int .u8 pr = AV.int .u8 (((u8i pr).toNat : Nat) : Int) := by rw [u8i_toNat]; congr 1; omega
  have hf := (bOk_row (n := 20) (r := 0) (e := false) (rowRMk41 (X := X) (Y := Y) (a := a) (b := b) (c := c) (d := d) (e := e) (f := f) (g := g) (i := i) hn hp) rfl rfl).2
  have hx : IntKind.i64.wrap (65535 - sumI (base4 pr n [a, b, c, d] [e, f, g, i]) 0) = chkI (base4 pr n [a, b, c, d] [e, f, g, i]) := wrapI64 (by have := chkI_range (base4 pr n [a, b, c, d] [e, f, g, i]); unfold chkI at this; omega)
  have hx2 : IntKind.u8.wrap ((chkI (base4 pr n [a, b, c, d] [e, f, g, i])).fdiv 256) = ((u8i ((chkI (base4 pr n [a, b, c, d] [e, f, g, i])).fdiv 256)).toNat : Int) := wrapU8_byte _
  have hx3 : IntKind.u8.wrap (chkI (base4 pr n [a, b, c, d] [e, f, g, i])) = ((u8i ((chkI (base4 pr n [a, b, c, d] [e, f, g, i])).fdiv 1)).toNat : Int) := by rw [wrapU8_byte, Int.fdiv_eq_ediv_of_nonneg _ (by omega), Int.ediv_one]
  unfold hRMk4FF2
  refine rfl.trans (congrArg some (congrArg (fun z => ABlk.cells z 1 Md.own none) ?_))
  simp only [intV_some, w0, w1, w2, hf, hx, hx2, hx3]
  rw [w3]
  rfl
set_option maxHeartbeats 2000000 in
theorem runRMk4F (X Y : List UInt8) (a b c d e f g i : UInt8) (pr n : Int) (hX : X.length = 12) (hY : Y.length = 12) (hn : 0 ≤ n ∧ n ≤ 65515) (hp : 0 ≤ pr ∧ pr < 256) :
    qrun Try.prog tRMk4 100 4 [] [] 18 [.agg (.bool false :: adr4c a b c d (bys X)), .agg (.bool false :: adr4c e f g i (bys Y)), .int .u8 pr, .int .i64 n] [] (fun v h => some (v, h)) = some (.tup [.sl (some (2, 0)) 20 0 false, .bool true], hRMk4FF2 pr n a b c d (bys X) e f g i (bys Y)) := by
  obtain ⟨e17, eW, eB⟩ := adr4_facts (a := a) (b := b) (c := c) (d := d) hX
  obtain ⟨f17, fW, fB⟩ := adr4_facts (a := e) (b := f) (c := g) (d := i) hY
  have wn : IntKind.u16.wrap (IntKind.i64.wrap (20 + n)) = 20 + n := by rw [wrapI64 (by omega), wrapU16 (by omega)]
  have wn2 : IntKind.i64.wrap (20 + n) = 20 + n := wrapI64 (by omega)
  have wn3 : IntKind.u16.wrap (20 + n) = 20 + n := wrapU16 (by omega)
  have hf := bOk_row (n := 20) (r := 0) (e := false) (rowRMk41 (X := X) (Y := Y) (a := a) (b := b) (c := c) (d := d) (e := e) (f := f) (g := g) (i := i) hn hp) rfl rfl
  have hk : (bOk (hRMk4FF1 pr n a b c d (bys X) e f g i (bys Y)) (AV.sl (some (2, 0)) 20 0 false) && decide (nOf (AV.sl (some (2, 0)) 20 0 false) ≤ 70368744177664 ∧ Int.ofNat 0 ≤ Int.ofNat 0 ∧ Int.ofNat 0 < Int.ofNat 4294967296)) = true := by rw [hf.1]; decide
  have hx : abits .u16 (· ^^^ ·) 65535 (sumI (base4 pr n [a, b, c, d] [e, f, g, i]) 0) = chkI (base4 pr n [a, b, c, d] [e, f, g, i]) := xor16 (sumI_range _ 0)
  have hcr := chkI_range (base4 pr n [a, b, c, d] [e, f, g, i])
  rw [nfRMk4FF]
  rw [if_neg (by simp; omega), if_neg (by simp; omega)]
  simp only [hk, if_true, e17, eW, eB, f17, fW, fB, wn2, wn3, hf.2, hx]
  repeat (first | (refine (if_pos ?_).trans ?_; · first | exact True.intro | omega | (simp [capOf, hX, hY, cdec_true, ↓isByteR_u8, isByteR, hn, hp, hcr]; done) | (simp [capOf, hX, hY, cdec_true, ↓isByteR_u8, isByteR, hn, hp, hcr]; omega)) | (refine (if_neg ?_).trans ?_; · first | omega | (simp [hX, hY, cdec_true, ↓isByteR_u8, isByteR, hn, hp, hcr]; done) | (simp [hX, hY, cdec_true, ↓isByteR_u8, isByteR, hn, hp, hcr]; omega)))
  first | done | rfl

theorem sRMk4 : SoundE Try.prog 18 (entF eMk4) := by
  refine canonR_sound fun args h v h' hg => ?_
  unfold eMk4 at hg
  split at hg
  · rename_i cs ds pr n
    simp only [Option.some.injEq, Prod.mk.injEq, Bool.and_eq_true, decide_eq_true_eq] at hg
    obtain ⟨⟨hw, hw2, hp⟩, rfl, rfl⟩ := hg
    obtain ⟨v, X, rfl, hX⟩ := adrWf_B hw
    obtain ⟨u, Y, rfl, hY⟩ := adrWf_B hw2
    refine ⟨[.agg (.bool v :: bys X), .agg (.bool u :: bys Y), .int .u8 pr, .int .i64 n], [], .cons _ _ _ _ _ _ _ (.flat _ _ adrB_free) (.cons _ _ _ _ _ _ _ (.flat _ _ adrB_free) (.cons _ _ _ _ _ _ _ (.flat _ _ rfl) (.cons _ _ _ _ _ _ _ (.flat _ _ rfl) (.nil _)))), ?_⟩
    have none_of : ∀ {v u : Bool} {cs ds : List AV} {h1 : AHeap}, qrun Try.prog tRMk4 100 4 [] [] 18 [.agg (.bool v :: cs), .agg (.bool u :: ds), .int .u8 pr, .int .i64 n] [] (fun v h => some (v, h)) = some (.tup [.sl none 0 0 true, .bool false], h1) → ¬ makes4 (.bool v :: cs) (.bool u :: ds) n →
        ∃ v1 h1', Runs Try.prog 18 [.agg (.bool v :: cs), .agg (.bool u :: ds), .int .u8 pr, .int .i64 n] [] v1 h1' ∧ ∃ ks new, h ++ [ownB (make4 (.bool v :: cs) (.bool u :: ds) pr n)] = h ++ new ∧
          Den h1' ([] : AHeap).length h.length ks v1 (.tup [slB h.length (make4 (.bool v :: cs) (.bool u :: ds) pr n), .bool (decide (makes4 (.bool v :: cs) (.bool u :: ds) n))]) new ∧ KsOk ks := by
      intro v u cs ds h1 hq hv
      rw [make4_N hv, decide_eq_false hv]
      exact ⟨_, _, Runs.ofT0 tRMk4Ok hq, [none], _, rfl, denRB0, ksOk1 _⟩
    cases v
    · cases u
      · obtain ⟨a, b, c, d, X', hXl, rfl, hX'⟩ := adr4_lit hX
        obtain ⟨e, f, g, i, Y', hYl, rfl, hY'⟩ := adr4_lit hY
        rw [hXl, hYl]
        by_cases h0 : n < 0
        · exact none_of ((nfRMk4FF pr n a b c d _ e f g i _ _).trans (if_pos (by simpa using h0))) (fun h => by have := h.2.2; omega)
        by_cases h1 : n > 65515
        · exact none_of ((nfRMk4FF pr n a b c d _ e f g i _ _).trans ((if_neg (by simpa using h0)).trans (if_pos (by simpa using h1)))) (fun h => by have := h.2.2; omega)
        have hn : 0 ≤ n ∧ n ≤ 65515 := by omega
        have m1 : makes4 (.bool false :: adr4c a b c d (bys X')) (.bool false :: adr4c e f g i (bys Y')) n := ⟨rfl, rfl, hn.1, hn.2⟩
        have m2 : make4 (.bool false :: adr4c a b c d (bys X')) (.bool false :: adr4c e f g i (bys Y')) pr n = hdr4 pr n [a, b, c, d] [e, f, g, i] := by
          unfold make4
          rw [if_pos m1, show adrBytes (.bool false :: adr4c a b c d (bys X')) = [a, b, c, d] from (adr4_facts hX').2.2, show adrBytes (.bool false :: adr4c e f g i (bys Y')) = [e, f, g, i] from (adr4_facts hY').2.2]
        rw [m2, decide_eq_true m1]
        exact ⟨_, _, Runs.ofT0 tRMk4Ok (runRMk4F X' Y' a b c d e f g i pr n hX' hY' hn hp), [some 2], _, rfl, denRB (by simp) (rowRMk42 hn hp) rfl (by unfold hdr4; rw [setsUp_length]; rfl), ksOk1 _⟩
      · exact none_of (nfRMk4FT pr n X Y _) (fun h => by have := h.2.1; simp [adrV6] at this)
    cases u
    · exact none_of (nfRMk4TF pr n X Y _) (fun h => by have := h.1; simp [adrV6] at this)
    · exact none_of (nfRMk4TT pr n X Y _) (fun h => by have := h.1; simp [adrV6] at this)
  · simp at hg


end Go.Proofs.Ytjkkhbeidhpghaa.L