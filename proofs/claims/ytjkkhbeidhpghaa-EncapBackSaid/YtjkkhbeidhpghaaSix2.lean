/- ipsix's Dest and Make, and the reference's. -/
import Derived.Test.YtjkkhbeidhpghaaSix
import Derived.Test.YtjkkhbeidhpghaaAddrB
import Derived.Test.YtjkkhbeidhpghaaOctB
set_option autoImplicit false
set_option maxRecDepth 100000
set_option linter.unusedVariables false
set_option linter.unusedSimpArgs false
namespace Go.Proofs.Ytjkkhbeidhpghaa.L
open Go Go.Abs

noncomputable def tMk6 : Tbl := [(39, entF ePut16)]
theorem tMk6Ok : ∀ f E, tMk6.find f = some E → SoundE Try.prog f E := find_cons sPut16 (find_nil _)
noncomputable def tRMk6 : Tbl := [(22, entF eBytes)]
theorem tRMk6Ok : ∀ f E, tRMk6.find f = some E → SoundE Try.prog f E := find_cons sRBytes (find_nil _)

noncomputable def hMk6TT0 (pr n : Int) (X Y : List UInt8) : AHeap := [ABlk.cells (AV.bool true :: bys X) 17 Md.own none, ABlk.cells (AV.bool true :: bys Y) 17 Md.own none]
noncomputable def hMk6TT1 (pr n : Int) (X Y : List UInt8) : AHeap := [ABlk.cells (AV.bool true :: bys X) 17 Md.own none, ABlk.cells (AV.bool true :: bys Y) 17 Md.own none, ABlk.cells [AV.int IntKind.u8 (((byteD (AV.int IntKind.u8 96)).toNat : Nat) : Int), AV.int IntKind.u8 0, AV.int IntKind.u8 0, AV.int IntKind.u8 0, AV.int IntKind.u8 (((u8i ((IntKind.u16.wrap n).fdiv 256)).toNat : Nat) : Int), AV.int IntKind.u8 (((u8i ((IntKind.u16.wrap n).fdiv 1)).toNat : Nat) : Int), AV.int IntKind.u8 (((byteD (AV.int IntKind.u8 pr)).toNat : Nat) : Int), AV.int IntKind.u8 (((byteD (AV.int IntKind.u8 64)).toNat : Nat) : Int), AV.int IntKind.u8 0, AV.int IntKind.u8 0, AV.int IntKind.u8 0, AV.int IntKind.u8 0, AV.int IntKind.u8 0, AV.int IntKind.u8 0, AV.int IntKind.u8 0, AV.int IntKind.u8 0, AV.int IntKind.u8 0, AV.int IntKind.u8 0, AV.int IntKind.u8 0, AV.int IntKind.u8 0, AV.int IntKind.u8 0, AV.int IntKind.u8 0, AV.int IntKind.u8 0, AV.int IntKind.u8 0, AV.int IntKind.u8 0, AV.int IntKind.u8 0, AV.int IntKind.u8 0, AV.int IntKind.u8 0, AV.int IntKind.u8 0, AV.int IntKind.u8 0, AV.int IntKind.u8 0, AV.int IntKind.u8 0, AV.int IntKind.u8 0, AV.int IntKind.u8 0, AV.int IntKind.u8 0, AV.int IntKind.u8 0, AV.int IntKind.u8 0, AV.int IntKind.u8 0, AV.int IntKind.u8 0, AV.int IntKind.u8 0] 1 Md.own none]
noncomputable def hMk6TT2 (pr n : Int) (X Y : List UInt8) : AHeap := [ABlk.cells (AV.bool true :: bys X) 17 Md.own none, ABlk.cells (AV.bool true :: bys Y) 17 Md.own none, ABlk.cells (putCells [AV.int IntKind.u8 (((byteD (AV.int IntKind.u8 96)).toNat : Nat) : Int), AV.int IntKind.u8 0, AV.int IntKind.u8 0, AV.int IntKind.u8 0, AV.int IntKind.u8 (((u8i ((IntKind.u16.wrap n).fdiv 256)).toNat : Nat) : Int), AV.int IntKind.u8 (((u8i ((IntKind.u16.wrap n).fdiv 1)).toNat : Nat) : Int), AV.int IntKind.u8 (((byteD (AV.int IntKind.u8 pr)).toNat : Nat) : Int), AV.int IntKind.u8 (((byteD (AV.int IntKind.u8 64)).toNat : Nat) : Int), AV.int IntKind.u8 0, AV.int IntKind.u8 0, AV.int IntKind.u8 0, AV.int IntKind.u8 0, AV.int IntKind.u8 0, AV.int IntKind.u8 0, AV.int IntKind.u8 0, AV.int IntKind.u8 0, AV.int IntKind.u8 0, AV.int IntKind.u8 0, AV.int IntKind.u8 0, AV.int IntKind.u8 0, AV.int IntKind.u8 0, AV.int IntKind.u8 0, AV.int IntKind.u8 0, AV.int IntKind.u8 0, AV.int IntKind.u8 0, AV.int IntKind.u8 0, AV.int IntKind.u8 0, AV.int IntKind.u8 0, AV.int IntKind.u8 0, AV.int IntKind.u8 0, AV.int IntKind.u8 0, AV.int IntKind.u8 0, AV.int IntKind.u8 0, AV.int IntKind.u8 0, AV.int IntKind.u8 0, AV.int IntKind.u8 0, AV.int IntKind.u8 0, AV.int IntKind.u8 0, AV.int IntKind.u8 0, AV.int IntKind.u8 0] 24 (List.take 16 (List.drop 1 (AV.bool true :: bys Y)))) 1 Md.own none]
noncomputable def hMk6TT3 (pr n : Int) (X Y : List UInt8) : AHeap := [ABlk.cells (AV.bool true :: bys X) 17 Md.own none, ABlk.cells (AV.bool true :: bys Y) 17 Md.own none, ABlk.cells (putCells [AV.int IntKind.u8 (((byteD (AV.int IntKind.u8 96)).toNat : Nat) : Int), AV.int IntKind.u8 0, AV.int IntKind.u8 0, AV.int IntKind.u8 0, AV.int IntKind.u8 (((u8i ((IntKind.u16.wrap n).fdiv 256)).toNat : Nat) : Int), AV.int IntKind.u8 (((u8i ((IntKind.u16.wrap n).fdiv 1)).toNat : Nat) : Int), AV.int IntKind.u8 (((byteD (AV.int IntKind.u8 pr)).toNat : Nat) : Int), AV.int IntKind.u8 (((byteD (AV.int IntKind.u8 64)).toNat : Nat) : Int), AV.int IntKind.u8 0, AV.int IntKind.u8 0, AV.int IntKind.u8 0, AV.int IntKind.u8 0, AV.int IntKind.u8 0, AV.int IntKind.u8 0, AV.int IntKind.u8 0, AV.int IntKind.u8 0, AV.int IntKind.u8 0, AV.int IntKind.u8 0, AV.int IntKind.u8 0, AV.int IntKind.u8 0, AV.int IntKind.u8 0, AV.int IntKind.u8 0, AV.int IntKind.u8 0, AV.int IntKind.u8 0, AV.int IntKind.u8 0, AV.int IntKind.u8 0, AV.int IntKind.u8 0, AV.int IntKind.u8 0, AV.int IntKind.u8 0, AV.int IntKind.u8 0, AV.int IntKind.u8 0, AV.int IntKind.u8 0, AV.int IntKind.u8 0, AV.int IntKind.u8 0, AV.int IntKind.u8 0, AV.int IntKind.u8 0, AV.int IntKind.u8 0, AV.int IntKind.u8 0, AV.int IntKind.u8 0, AV.int IntKind.u8 0] 8 (List.take 16 (List.drop 1 (AV.bool true :: bys X)))) 1 Md.own none]
noncomputable def hMk6TT4 (pr n : Int) (X Y : List UInt8) : AHeap := [ABlk.cells (AV.bool true :: bys X) 17 Md.own none, ABlk.cells (AV.bool true :: bys Y) 17 Md.own none, ABlk.cells (putCells (putCells [AV.int IntKind.u8 (((byteD (AV.int IntKind.u8 96)).toNat : Nat) : Int), AV.int IntKind.u8 0, AV.int IntKind.u8 0, AV.int IntKind.u8 0, AV.int IntKind.u8 (((u8i ((IntKind.u16.wrap n).fdiv 256)).toNat : Nat) : Int), AV.int IntKind.u8 (((u8i ((IntKind.u16.wrap n).fdiv 1)).toNat : Nat) : Int), AV.int IntKind.u8 (((byteD (AV.int IntKind.u8 pr)).toNat : Nat) : Int), AV.int IntKind.u8 (((byteD (AV.int IntKind.u8 64)).toNat : Nat) : Int), AV.int IntKind.u8 0, AV.int IntKind.u8 0, AV.int IntKind.u8 0, AV.int IntKind.u8 0, AV.int IntKind.u8 0, AV.int IntKind.u8 0, AV.int IntKind.u8 0, AV.int IntKind.u8 0, AV.int IntKind.u8 0, AV.int IntKind.u8 0, AV.int IntKind.u8 0, AV.int IntKind.u8 0, AV.int IntKind.u8 0, AV.int IntKind.u8 0, AV.int IntKind.u8 0, AV.int IntKind.u8 0, AV.int IntKind.u8 0, AV.int IntKind.u8 0, AV.int IntKind.u8 0, AV.int IntKind.u8 0, AV.int IntKind.u8 0, AV.int IntKind.u8 0, AV.int IntKind.u8 0, AV.int IntKind.u8 0, AV.int IntKind.u8 0, AV.int IntKind.u8 0, AV.int IntKind.u8 0, AV.int IntKind.u8 0, AV.int IntKind.u8 0, AV.int IntKind.u8 0, AV.int IntKind.u8 0, AV.int IntKind.u8 0] 8 (List.take 16 (List.drop 1 (AV.bool true :: bys X)))) 24 (List.take 16 (List.drop 1 (AV.bool true :: bys Y)))) 1 Md.own none]
theorem nfMk6TT {R : Type} (pr n : Int) (X Y : List UInt8) (K : AV → AHeap → Option R) :
 qrun Try.prog tMk6 100 4 [] [] 28 [.agg (.bool true :: bys X), .agg (.bool true :: bys Y), .int .u8 pr, .int .i64 n] [] K =
 (if decide (n < 0) = true then
 K (AV.tup [AV.sl none 0 0 true, AV.bool false]) ((hMk6TT0 pr n X Y))
 else (if decide (n > 65535) = true then
 K (AV.tup [AV.sl none 0 0 true, AV.bool false]) ((hMk6TT0 pr n X Y))
 else (if cdec (0 = 0 ∧ 0 = 0 ∧ false = false ∧ 1 = 1 ∧ 40 = [AV.int IntKind.u8 96, AV.int IntKind.u8 0, AV.int IntKind.u8 0, AV.int IntKind.u8 0, AV.int IntKind.u8 0, AV.int IntKind.u8 0, AV.int IntKind.u8 pr, AV.int IntKind.u8 64, AV.int IntKind.u8 0, AV.int IntKind.u8 0, AV.int IntKind.u8 0, AV.int IntKind.u8 0, AV.int IntKind.u8 0, AV.int IntKind.u8 0, AV.int IntKind.u8 0, AV.int IntKind.u8 0, AV.int IntKind.u8 0, AV.int IntKind.u8 0, AV.int IntKind.u8 0, AV.int IntKind.u8 0, AV.int IntKind.u8 0, AV.int IntKind.u8 0, AV.int IntKind.u8 0, AV.int IntKind.u8 0, AV.int IntKind.u8 0, AV.int IntKind.u8 0, AV.int IntKind.u8 0, AV.int IntKind.u8 0, AV.int IntKind.u8 0, AV.int IntKind.u8 0, AV.int IntKind.u8 0, AV.int IntKind.u8 0, AV.int IntKind.u8 0, AV.int IntKind.u8 0, AV.int IntKind.u8 0, AV.int IntKind.u8 0, AV.int IntKind.u8 0, AV.int IntKind.u8 0, AV.int IntKind.u8 0, AV.int IntKind.u8 0].length ∧ 40 ≤ 1000000000000 ∧ [AV.int IntKind.u8 96, AV.int IntKind.u8 0, AV.int IntKind.u8 0, AV.int IntKind.u8 0, AV.int IntKind.u8 0, AV.int IntKind.u8 0, AV.int IntKind.u8 pr, AV.int IntKind.u8 64, AV.int IntKind.u8 0, AV.int IntKind.u8 0, AV.int IntKind.u8 0, AV.int IntKind.u8 0, AV.int IntKind.u8 0, AV.int IntKind.u8 0, AV.int IntKind.u8 0, AV.int IntKind.u8 0, AV.int IntKind.u8 0, AV.int IntKind.u8 0, AV.int IntKind.u8 0, AV.int IntKind.u8 0, AV.int IntKind.u8 0, AV.int IntKind.u8 0, AV.int IntKind.u8 0, AV.int IntKind.u8 0, AV.int IntKind.u8 0, AV.int IntKind.u8 0, AV.int IntKind.u8 0, AV.int IntKind.u8 0, AV.int IntKind.u8 0, AV.int IntKind.u8 0, AV.int IntKind.u8 0, AV.int IntKind.u8 0, AV.int IntKind.u8 0, AV.int IntKind.u8 0, AV.int IntKind.u8 0, AV.int IntKind.u8 0, AV.int IntKind.u8 0, AV.int IntKind.u8 0, AV.int IntKind.u8 0, AV.int IntKind.u8 0].all isByteR = true ∧ 0 ≤ IntKind.u16.wrap n ∧ IntKind.u16.wrap n < 65536 ∧ none ≠ some 2) = true then
 (if 17 ≤ (AV.bool true :: bys X).length then
 (if (List.take 16 (List.drop 1 (AV.bool true :: bys X))).length = 0 then
 (if 17 ≤ (AV.bool true :: bys Y).length then
 (if (List.take 16 (List.drop 1 (AV.bool true :: bys Y))).length = 0 then
 K (AV.tup [AV.sl (some (2, 0)) 40 0 false, AV.bool true]) ((hMk6TT1 pr n X Y))
 else (if 24 + (List.take 16 (List.drop 1 (AV.bool true :: bys Y))).length ≤ [AV.int IntKind.u8 (((byteD (AV.int IntKind.u8 96)).toNat : Nat) : Int), AV.int IntKind.u8 0, AV.int IntKind.u8 0, AV.int IntKind.u8 0, AV.int IntKind.u8 (((u8i ((IntKind.u16.wrap n).fdiv 256)).toNat : Nat) : Int), AV.int IntKind.u8 (((u8i ((IntKind.u16.wrap n).fdiv 1)).toNat : Nat) : Int), AV.int IntKind.u8 (((byteD (AV.int IntKind.u8 pr)).toNat : Nat) : Int), AV.int IntKind.u8 (((byteD (AV.int IntKind.u8 64)).toNat : Nat) : Int), AV.int IntKind.u8 0, AV.int IntKind.u8 0, AV.int IntKind.u8 0, AV.int IntKind.u8 0, AV.int IntKind.u8 0, AV.int IntKind.u8 0, AV.int IntKind.u8 0, AV.int IntKind.u8 0, AV.int IntKind.u8 0, AV.int IntKind.u8 0, AV.int IntKind.u8 0, AV.int IntKind.u8 0, AV.int IntKind.u8 0, AV.int IntKind.u8 0, AV.int IntKind.u8 0, AV.int IntKind.u8 0, AV.int IntKind.u8 0, AV.int IntKind.u8 0, AV.int IntKind.u8 0, AV.int IntKind.u8 0, AV.int IntKind.u8 0, AV.int IntKind.u8 0, AV.int IntKind.u8 0, AV.int IntKind.u8 0, AV.int IntKind.u8 0, AV.int IntKind.u8 0, AV.int IntKind.u8 0, AV.int IntKind.u8 0, AV.int IntKind.u8 0, AV.int IntKind.u8 0, AV.int IntKind.u8 0, AV.int IntKind.u8 0].length ∧ (List.take 16 (List.drop 1 (AV.bool true :: bys Y))).all AV.isCell = true then
 K (AV.tup [AV.sl (some (2, 0)) 40 0 false, AV.bool true]) ((hMk6TT2 pr n X Y))
 else none))
 else none)
 else (if 8 + (List.take 16 (List.drop 1 (AV.bool true :: bys X))).length ≤ [AV.int IntKind.u8 (((byteD (AV.int IntKind.u8 96)).toNat : Nat) : Int), AV.int IntKind.u8 0, AV.int IntKind.u8 0, AV.int IntKind.u8 0, AV.int IntKind.u8 (((u8i ((IntKind.u16.wrap n).fdiv 256)).toNat : Nat) : Int), AV.int IntKind.u8 (((u8i ((IntKind.u16.wrap n).fdiv 1)).toNat : Nat) : Int), AV.int IntKind.u8 (((byteD (AV.int IntKind.u8 pr)).toNat : Nat) : Int), AV.int IntKind.u8 (((byteD (AV.int IntKind.u8 64)).toNat : Nat) : Int), AV.int IntKind.u8 0, AV.int IntKind.u8 0, AV.int IntKind.u8 0, AV.int IntKind.u8 0, AV.int IntKind.u8 0, AV.int IntKind.u8 0, AV.int IntKind.u8 0, AV.int IntKind.u8 0, AV.int IntKind.u8 0, AV.int IntKind.u8 0, AV.int IntKind.u8 0, AV.int IntKind.u8 0, AV.int IntKind.u8 0, AV.int IntKind.u8 0, AV.int IntKind.u8 0, AV.int IntKind.u8 0, AV.int IntKind.u8 0, AV.int IntKind.u8 0, AV.int IntKind.u8 0, AV.int IntKind.u8 0, AV.int IntKind.u8 0, AV.int IntKind.u8 0, AV.int IntKind.u8 0, AV.int IntKind.u8 0, AV.int IntKind.u8 0, AV.int IntKind.u8 0, AV.int IntKind.u8 0, AV.int IntKind.u8 0, AV.int IntKind.u8 0, AV.int IntKind.u8 0, AV.int IntKind.u8 0, AV.int IntKind.u8 0].length ∧ (List.take 16 (List.drop 1 (AV.bool true :: bys X))).all AV.isCell = true then
 (if 17 ≤ (AV.bool true :: bys Y).length then
 (if (List.take 16 (List.drop 1 (AV.bool true :: bys Y))).length = 0 then
 K (AV.tup [AV.sl (some (2, 0)) 40 0 false, AV.bool true]) ((hMk6TT3 pr n X Y))
 else (if 24 + (List.take 16 (List.drop 1 (AV.bool true :: bys Y))).length ≤ (putCells [AV.int IntKind.u8 (((byteD (AV.int IntKind.u8 96)).toNat : Nat) : Int), AV.int IntKind.u8 0, AV.int IntKind.u8 0, AV.int IntKind.u8 0, AV.int IntKind.u8 (((u8i ((IntKind.u16.wrap n).fdiv 256)).toNat : Nat) : Int), AV.int IntKind.u8 (((u8i ((IntKind.u16.wrap n).fdiv 1)).toNat : Nat) : Int), AV.int IntKind.u8 (((byteD (AV.int IntKind.u8 pr)).toNat : Nat) : Int), AV.int IntKind.u8 (((byteD (AV.int IntKind.u8 64)).toNat : Nat) : Int), AV.int IntKind.u8 0, AV.int IntKind.u8 0, AV.int IntKind.u8 0, AV.int IntKind.u8 0, AV.int IntKind.u8 0, AV.int IntKind.u8 0, AV.int IntKind.u8 0, AV.int IntKind.u8 0, AV.int IntKind.u8 0, AV.int IntKind.u8 0, AV.int IntKind.u8 0, AV.int IntKind.u8 0, AV.int IntKind.u8 0, AV.int IntKind.u8 0, AV.int IntKind.u8 0, AV.int IntKind.u8 0, AV.int IntKind.u8 0, AV.int IntKind.u8 0, AV.int IntKind.u8 0, AV.int IntKind.u8 0, AV.int IntKind.u8 0, AV.int IntKind.u8 0, AV.int IntKind.u8 0, AV.int IntKind.u8 0, AV.int IntKind.u8 0, AV.int IntKind.u8 0, AV.int IntKind.u8 0, AV.int IntKind.u8 0, AV.int IntKind.u8 0, AV.int IntKind.u8 0, AV.int IntKind.u8 0, AV.int IntKind.u8 0] 8 (List.take 16 (List.drop 1 (AV.bool true :: bys X)))).length ∧ (List.take 16 (List.drop 1 (AV.bool true :: bys Y))).all AV.isCell = true then
 K (AV.tup [AV.sl (some (2, 0)) 40 0 false, AV.bool true]) ((hMk6TT4 pr n X Y))
 else none))
 else none) else none))
 else none) else none))) := by
  kernel_rfl

noncomputable def hMk6TF0 (pr n : Int) (X Y : List UInt8) : AHeap := [ABlk.cells (AV.bool true :: bys X) 17 Md.own none, ABlk.cells (AV.bool false :: bys Y) 17 Md.own none]
theorem nfMk6TF {R : Type} (pr n : Int) (X Y : List UInt8) (K : AV → AHeap → Option R) :
 qrun Try.prog tMk6 100 4 [] [] 28 [.agg (.bool true :: bys X), .agg (.bool false :: bys Y), .int .u8 pr, .int .i64 n] [] K =
 K (AV.tup [AV.sl none 0 0 true, AV.bool false]) ((hMk6TF0 pr n X Y)) := by
  kernel_rfl

noncomputable def hMk6FT0 (pr n : Int) (X Y : List UInt8) : AHeap := [ABlk.cells (AV.bool false :: bys X) 17 Md.own none, ABlk.cells (AV.bool true :: bys Y) 17 Md.own none]
theorem nfMk6FT {R : Type} (pr n : Int) (X Y : List UInt8) (K : AV → AHeap → Option R) :
 qrun Try.prog tMk6 100 4 [] [] 28 [.agg (.bool false :: bys X), .agg (.bool true :: bys Y), .int .u8 pr, .int .i64 n] [] K =
 K (AV.tup [AV.sl none 0 0 true, AV.bool false]) ((hMk6FT0 pr n X Y)) := by
  kernel_rfl

noncomputable def hMk6FF0 (pr n : Int) (X Y : List UInt8) : AHeap := [ABlk.cells (AV.bool false :: bys X) 17 Md.own none, ABlk.cells (AV.bool false :: bys Y) 17 Md.own none]
theorem nfMk6FF {R : Type} (pr n : Int) (X Y : List UInt8) (K : AV → AHeap → Option R) :
 qrun Try.prog tMk6 100 4 [] [] 28 [.agg (.bool false :: bys X), .agg (.bool false :: bys Y), .int .u8 pr, .int .i64 n] [] K =
 K (AV.tup [AV.sl none 0 0 true, AV.bool false]) ((hMk6FF0 pr n X Y)) := by
  kernel_rfl

noncomputable def hRMk6TT0 (pr n : Int) (X Y : List UInt8) : AHeap := [ABlk.cells (AV.bool true :: bys X) 17 Md.own none, ABlk.cells (AV.bool true :: bys Y) 17 Md.own none]
noncomputable def hRMk6TT1 (pr n : Int) (X Y : List UInt8) : AHeap := [ABlk.cells (AV.bool true :: bys X) 17 Md.own none, ABlk.cells (AV.bool true :: bys Y) 17 Md.own none, ABlk.dead, ABlk.cells (bys (adrBytes (List.take 17 (AV.bool true :: bys X)))) 1 Md.own none, ABlk.cells ([AV.int IntKind.u8 96, AV.int IntKind.u8 0, AV.int IntKind.u8 0, AV.int IntKind.u8 0, AV.int IntKind.u8 (IntKind.u8.wrap (n.fdiv 256)), AV.int IntKind.u8 (IntKind.u8.wrap n), AV.int IntKind.u8 pr, AV.int IntKind.u8 64] ++ List.take ((adrBytes (List.take 17 (AV.bool true :: bys X))).length * 1) (bys (adrBytes (List.take 17 (AV.bool true :: bys X))))) 1 Md.ro none, ABlk.cells (bys (adrBytes (List.take 17 (AV.bool true :: bys Y)))) 1 Md.own none, ABlk.cells (List.take ((8 + (adrBytes (List.take 17 (AV.bool true :: bys X))).length) * 1) ([AV.int IntKind.u8 96, AV.int IntKind.u8 0, AV.int IntKind.u8 0, AV.int IntKind.u8 0, AV.int IntKind.u8 (IntKind.u8.wrap (n.fdiv 256)), AV.int IntKind.u8 (IntKind.u8.wrap n), AV.int IntKind.u8 pr, AV.int IntKind.u8 64] ++ List.take ((adrBytes (List.take 17 (AV.bool true :: bys X))).length * 1) (bys (adrBytes (List.take 17 (AV.bool true :: bys X))))) ++ List.take ((adrBytes (List.take 17 (AV.bool true :: bys Y))).length * 1) (bys (adrBytes (List.take 17 (AV.bool true :: bys Y))))) 1 Md.own (some 4)]
theorem nfRMk6TT {R : Type} (pr n : Int) (X Y : List UInt8) (K : AV → AHeap → Option R) :
 qrun Try.prog tRMk6 100 4 [] [] 17 [.agg (.bool true :: bys X), .agg (.bool true :: bys Y), .int .u8 pr, .int .i64 n] [] K =
 (if decide (n < 0) = true then
 K (AV.tup [AV.sl none 0 0 true, AV.bool false]) ((hRMk6TT0 pr n X Y))
 else (if decide (n > 65535) = true then
 K (AV.tup [AV.sl none 0 0 true, AV.bool false]) ((hRMk6TT0 pr n X Y))
 else (if 17 ≤ (AV.bool true :: bys X).length then
 (if adrWf (List.take 17 (AV.bool true :: bys X)) = true then
 (if 0 + (adrBytes (List.take 17 (AV.bool true :: bys X))).length * 1 ≤ (bys (adrBytes (List.take 17 (AV.bool true :: bys X)))).length then
 (if (2 * (8 + (adrBytes (List.take 17 (AV.bool true :: bys X))).length) + 200) * 1 ≤ 281474976710656 ∧ some 1 = some 1 ∧ 8 + (adrBytes (List.take 17 (AV.bool true :: bys X))).length ≤ 70368744177664 then
 (if 0 = 0 ∧ 8 = [AV.int IntKind.u8 96, AV.int IntKind.u8 0, AV.int IntKind.u8 0, AV.int IntKind.u8 0, AV.int IntKind.u8 (IntKind.u8.wrap (n.fdiv 256)), AV.int IntKind.u8 (IntKind.u8.wrap n), AV.int IntKind.u8 pr, AV.int IntKind.u8 64].length ∧ (0 < (adrBytes (List.take 17 (AV.bool true :: bys X))).length ∨ 0 = 0) ∧ 1 = 1 ∧ (List.take ((adrBytes (List.take 17 (AV.bool true :: bys X))).length * 1) (bys (adrBytes (List.take 17 (AV.bool true :: bys X))))).all AV.isCell = true then
 (if 17 ≤ (AV.bool true :: bys Y).length then
 (if adrWf (List.take 17 (AV.bool true :: bys Y)) = true then
 (if 0 + (adrBytes (List.take 17 (AV.bool true :: bys Y))).length * 1 ≤ (bys (adrBytes (List.take 17 (AV.bool true :: bys Y)))).length then
 (if (2 * (8 + (adrBytes (List.take 17 (AV.bool true :: bys X))).length + (adrBytes (List.take 17 (AV.bool true :: bys Y))).length) + 200) * 1 ≤ 281474976710656 ∧ some 1 = some 1 ∧ 8 + (adrBytes (List.take 17 (AV.bool true :: bys X))).length + (adrBytes (List.take 17 (AV.bool true :: bys Y))).length ≤ 70368744177664 then
 (if 0 + (8 + (adrBytes (List.take 17 (AV.bool true :: bys X))).length) * 1 ≤ ([AV.int IntKind.u8 96, AV.int IntKind.u8 0, AV.int IntKind.u8 0, AV.int IntKind.u8 0, AV.int IntKind.u8 (IntKind.u8.wrap (n.fdiv 256)), AV.int IntKind.u8 (IntKind.u8.wrap n), AV.int IntKind.u8 pr, AV.int IntKind.u8 64] ++ List.take ((adrBytes (List.take 17 (AV.bool true :: bys X))).length * 1) (bys (adrBytes (List.take 17 (AV.bool true :: bys X))))).length then
 (if 0 = 0 ∧ 0 + (8 + (adrBytes (List.take 17 (AV.bool true :: bys X))).length) * 1 = ([AV.int IntKind.u8 96, AV.int IntKind.u8 0, AV.int IntKind.u8 0, AV.int IntKind.u8 0, AV.int IntKind.u8 (IntKind.u8.wrap (n.fdiv 256)), AV.int IntKind.u8 (IntKind.u8.wrap n), AV.int IntKind.u8 pr, AV.int IntKind.u8 64] ++ List.take ((adrBytes (List.take 17 (AV.bool true :: bys X))).length * 1) (bys (adrBytes (List.take 17 (AV.bool true :: bys X))))).length ∧ (0 < (adrBytes (List.take 17 (AV.bool true :: bys Y))).length ∨ 0 = 0) ∧ 1 = 1 ∧ (List.take ((adrBytes (List.take 17 (AV.bool true :: bys Y))).length * 1) (bys (adrBytes (List.take 17 (AV.bool true :: bys Y))))).all AV.isCell = true then
 (if 17 ≤ (AV.bool true :: bys Y).length then
 (if (AV.agg (List.take 17 (AV.bool true :: bys Y))).beq (AV.agg (List.take 17 (AV.bool true :: bys Y))) = true then
 (if 17 ≤ (AV.bool true :: bys Y).length then
 (if (AV.agg (List.take 17 (AV.bool true :: bys Y))).beq (AV.agg (List.take 17 (AV.bool true :: bys Y))) = true then
 K (AV.tup [AV.sl (some (6, 0)) (8 + (adrBytes (List.take 17 (AV.bool true :: bys X))).length + (adrBytes (List.take 17 (AV.bool true :: bys Y))).length) 0 false, AV.bool true]) ((hRMk6TT1 pr n X Y))
 else none) else none) else none) else none) else none) else none) else none) else none) else none) else none) else none) else none) else none) else none) else none))) := by
  kernel_rfl

noncomputable def hRMk6TF0 (pr n : Int) (X Y : List UInt8) : AHeap := [ABlk.cells (AV.bool true :: bys X) 17 Md.own none, ABlk.cells (AV.bool false :: bys Y) 17 Md.own none]
theorem nfRMk6TF {R : Type} (pr n : Int) (X Y : List UInt8) (K : AV → AHeap → Option R) :
 qrun Try.prog tRMk6 100 4 [] [] 17 [.agg (.bool true :: bys X), .agg (.bool false :: bys Y), .int .u8 pr, .int .i64 n] [] K =
 K (AV.tup [AV.sl none 0 0 true, AV.bool false]) ((hRMk6TF0 pr n X Y)) := by
  kernel_rfl

noncomputable def hRMk6FT0 (pr n : Int) (X Y : List UInt8) : AHeap := [ABlk.cells (AV.bool false :: bys X) 17 Md.own none, ABlk.cells (AV.bool true :: bys Y) 17 Md.own none]
theorem nfRMk6FT {R : Type} (pr n : Int) (X Y : List UInt8) (K : AV → AHeap → Option R) :
 qrun Try.prog tRMk6 100 4 [] [] 17 [.agg (.bool false :: bys X), .agg (.bool true :: bys Y), .int .u8 pr, .int .i64 n] [] K =
 K (AV.tup [AV.sl none 0 0 true, AV.bool false]) ((hRMk6FT0 pr n X Y)) := by
  kernel_rfl

noncomputable def hRMk6FF0 (pr n : Int) (X Y : List UInt8) : AHeap := [ABlk.cells (AV.bool false :: bys X) 17 Md.own none, ABlk.cells (AV.bool false :: bys Y) 17 Md.own none]
theorem nfRMk6FF {R : Type} (pr n : Int) (X Y : List UInt8) (K : AV → AHeap → Option R) :
 qrun Try.prog tRMk6 100 4 [] [] 17 [.agg (.bool false :: bys X), .agg (.bool false :: bys Y), .int .u8 pr, .int .i64 n] [] K =
 K (AV.tup [AV.sl none 0 0 true, AV.bool false]) ((hRMk6FF0 pr n X Y)) := by
  kernel_rfl


theorem make6_N {cs ds : List AV} {pr n : Int} (h : ¬ makes6 cs ds n) : make6 cs ds pr n = [] := by unfold make6; rw [if_neg h]
theorem make6_T {X Y : List UInt8} {pr n : Int} (h : 0 ≤ n ∧ n ≤ 65535) : makes6 (.bool true :: bys X) (.bool true :: bys Y) n ∧ make6 (.bool true :: bys X) (.bool true :: bys Y) pr n = [96, 0, 0, 0, u8i (n / 256), u8i n, u8i pr, 64] ++ X ++ Y := by
  have hm : makes6 (.bool true :: bys X) (.bool true :: bys Y) n := ⟨rfl, rfl, h.1, h.2⟩
  refine ⟨hm, ?_⟩
  unfold make6; rw [if_pos hm, adrB_T, adrB_T]
theorem base6 {pr n : Int} (hn : 0 ≤ n ∧ n ≤ 65535) (hp : 0 ≤ pr ∧ pr < 256) : [AV.int .u8 (((byteD (AV.int .u8 96)).toNat : Nat) : Int), AV.int .u8 0, AV.int .u8 0, AV.int .u8 0, AV.int .u8 (((u8i ((IntKind.u16.wrap n).fdiv 256)).toNat : Nat) : Int), AV.int .u8 (((u8i ((IntKind.u16.wrap n).fdiv 1)).toNat : Nat) : Int), AV.int .u8 (((byteD (AV.int .u8 pr)).toNat : Nat) : Int), AV.int .u8 (((byteD (AV.int .u8 64)).toNat : Nat) : Int), AV.int .u8 0, AV.int .u8 0, AV.int .u8 0, AV.int .u8 0, AV.int .u8 0, AV.int .u8 0, AV.int .u8 0, AV.int .u8 0, AV.int .u8 0, AV.int .u8 0, AV.int .u8 0, AV.int .u8 0, AV.int .u8 0, AV.int .u8 0, AV.int .u8 0, AV.int .u8 0, AV.int .u8 0, AV.int .u8 0, AV.int .u8 0, AV.int .u8 0, AV.int .u8 0, AV.int .u8 0, AV.int .u8 0, AV.int .u8 0, AV.int .u8 0, AV.int .u8 0, AV.int .u8 0, AV.int .u8 0, AV.int .u8 0, AV.int .u8 0, AV.int .u8 0, AV.int .u8 0] =
    bys ([96, 0, 0, 0, u8i (n / 256), u8i n, u8i pr, 64] ++ List.replicate 32 0) := by
  have q1 : n.fdiv 256 = n / 256 := Int.fdiv_eq_ediv_of_nonneg _ (by omega)
  have q2 : n.fdiv 1 = n := by rw [Int.fdiv_eq_ediv_of_nonneg _ (by omega), Int.ediv_one]
  rw [wrapU16 (by omega), q1, q2]
  have e : byteD (AV.int .u8 pr) = u8i pr := by
    show UInt8.ofNat pr.toNat = UInt8.ofNat (pr % 256).toNat
    rw [Int.emod_eq_of_lt hp.1 hp.2]
  rw [e]
  rfl
theorem cells6 {B X Y : List UInt8} (hB : B.length = 8) (hX : X.length = 16) (hY : Y.length = 16) : putCells (putCells (bys (B ++ List.replicate 32 0)) 8 (bys X)) 24 (bys Y) = bys (B ++ X ++ Y) := by
  rw [putCells_bytes _ _ _ (by simp; omega), putCells_bytes _ _ _ (by simp; omega)]
  congr 1
  rw [hX, hY]
  have e1 : List.take 8 (B ++ List.replicate 32 (0 : UInt8)) = B := by rw [List.take_append, hB]; simp [← hB]
  have e2 : List.drop (8 + 16) (B ++ List.replicate 32 (0 : UInt8)) = List.replicate 16 0 := by rw [List.drop_append, hB, List.drop_of_length_le (by omega)]; rfl
  rw [e1, e2]
  have e3 : List.take 24 (B ++ X ++ List.replicate 16 (0 : UInt8)) = B ++ X := by rw [List.take_append, List.take_of_length_le (by simp; omega)]; simp [hB, hX]
  have e4 : List.drop (24 + 16) (B ++ X ++ List.replicate 16 (0 : UInt8)) = [] := List.drop_of_length_le (by simp; omega)
  rw [e3, e4]; simp


theorem runMk6T (X Y : List UInt8) (pr n : Int) (hX : X.length = 16) (hY : Y.length = 16) (hn : 0 ≤ n ∧ n ≤ 65535) (hp : 0 ≤ pr ∧ pr < 256) :
    qrun Try.prog tMk6 100 4 [] [] 28 [.agg (.bool true :: bys X), .agg (.bool true :: bys Y), .int .u8 pr, .int .i64 n] [] (fun v h => some (v, h)) = some (.tup [.sl (some (2, 0)) 40 0 false, .bool true], hMk6TT4 pr n X Y) := by
  have e17 := adrB_17 (v := true) hX
  have f17 := adrB_17 (v := true) hY
  have eW := adrB_wf (v := true) hX
  have fW := adrB_wf (v := true) hY
  have eB := adrB_T X
  have fB := adrB_T Y
  have e16 := adrB_16 (v := true) hX
  have f16 := adrB_16 (v := true) hY
  have wn : IntKind.u16.wrap n = n := wrapU16 (by omega)
  rw [nfMk6TT]
  simp only [↓Bool.and_eq_true, ↓decide_eq_true_eq, bOk, bOf, rowOk, rowOf, nOf_sl, List.getElem?_cons_zero, List.getElem?_cons_succ, Nat.zero_add, Nat.mul_one, Nat.add_zero, List.drop_zero, bys_drop, bys_take, bys_byteD, bys_isByteR, List.take_length, bys_length, intV_some, isIntV_byte, intV_byte, bys_get, beq_int, Bool.and_true, Bool.true_and, AV.beq_self, e17, f17, eW, fW, eB, fB, e16, f16, hX, hY, wn]
  repeat (first | (refine (if_pos ?_).trans ?_; · first | trivial | omega | (simp [capOf, hX, hY, cdec_true, isByteR, hn, hp]; done) | (simp [capOf, hX, hY, cdec_true, isByteR, hn, hp]; omega)) | (refine (if_neg ?_).trans ?_; · first | omega | (simp [hX, hY, cdec_true, isByteR, hn, hp]; done) | (simp [hX, hY, cdec_true, isByteR, hn, hp]; omega)))
  rfl

theorem sMk6 : SoundE Try.prog 28 (entF eMk6) := by
  refine canonR_sound fun args h v h' hg => ?_
  unfold eMk6 at hg
  split at hg
  · rename_i cs ds pr n
    simp only [Option.some.injEq, Prod.mk.injEq, Bool.and_eq_true, decide_eq_true_eq] at hg
    obtain ⟨⟨hw, hw2, hp⟩, rfl, rfl⟩ := hg
    obtain ⟨v, X, rfl, hX⟩ := adrWf_B hw
    obtain ⟨u, Y, rfl, hY⟩ := adrWf_B hw2
    refine ⟨[.agg (.bool v :: bys X), .agg (.bool u :: bys Y), .int .u8 pr, .int .i64 n], [], .cons _ _ _ _ _ _ _ (.flat _ _ adrB_free) (.cons _ _ _ _ _ _ _ (.flat _ _ adrB_free) (.cons _ _ _ _ _ _ _ (.flat _ _ rfl) (.cons _ _ _ _ _ _ _ (.flat _ _ rfl) (.nil _)))), ?_⟩
    have none_of : ∀ {v u : Bool} {h1 : AHeap}, qrun Try.prog tMk6 100 4 [] [] 28 [.agg (.bool v :: bys X), .agg (.bool u :: bys Y), .int .u8 pr, .int .i64 n] [] (fun v h => some (v, h)) = some (.tup [.sl none 0 0 true, .bool false], h1) → ¬ makes6 (.bool v :: bys X) (.bool u :: bys Y) n →
        ∃ v1 h1', Runs Try.prog 28 [.agg (.bool v :: bys X), .agg (.bool u :: bys Y), .int .u8 pr, .int .i64 n] [] v1 h1' ∧ ∃ ks new, h ++ [ownB (make6 (.bool v :: bys X) (.bool u :: bys Y) pr n)] = h ++ new ∧
          Den h1' ([] : AHeap).length h.length ks v1 (.tup [slB h.length (make6 (.bool v :: bys X) (.bool u :: bys Y) pr n), .bool (decide (makes6 (.bool v :: bys X) (.bool u :: bys Y) n))]) new ∧ KsOk ks := by
      intro v u h1 hq hv
      rw [make6_N hv, decide_eq_false hv]
      exact ⟨_, _, Runs.ofT0 tMk6Ok hq, [none], _, rfl, denRB0, ksOk1 _⟩
    cases v
    · cases u
      · exact none_of (nfMk6FF pr n X Y _) (fun h => by have := h.1; simp [adrV6] at this)
      · exact none_of (nfMk6FT pr n X Y _) (fun h => by have := h.1; simp [adrV6] at this)
    cases u
    · exact none_of (nfMk6TF pr n X Y _) (fun h => by have := h.2.1; simp [adrV6] at this)
    by_cases h0 : n < 0
    · exact none_of ((nfMk6TT pr n X Y _).trans (if_pos (by simpa using h0))) (fun h => by have := h.2.2; omega)
    by_cases h1 : n > 65535
    · exact none_of ((nfMk6TT pr n X Y _).trans ((if_neg (by simpa using h0)).trans (if_pos (by simpa using h1)))) (fun h => by have := h.2.2; omega)
    have hn : 0 ≤ n ∧ n ≤ 65535 := by omega
    obtain ⟨m1, m2⟩ := make6_T (X := X) (Y := Y) (pr := pr) hn
    rw [m2, decide_eq_true m1]
    exact ⟨_, _, Runs.ofT0 tMk6Ok (runMk6T X Y pr n hX hY hn hp), [some 2], _, rfl, denRB (by simp) rfl (show putCells (putCells _ _ _) _ _ = _ by
          rw [adrB_16 (v := true) hX, adrB_16 (v := true) hY, base6 hn hp, cells6 rfl hX hY]) (by simp [hX, hY]), ksOk1 _⟩
  · simp at hg


theorem runRMk6T (X Y : List UInt8) (pr n : Int) (hX : X.length = 16) (hY : Y.length = 16) (hn : 0 ≤ n ∧ n ≤ 65535) (hp : 0 ≤ pr ∧ pr < 256) :
    qrun Try.prog tRMk6 100 4 [] [] 17 [.agg (.bool true :: bys X), .agg (.bool true :: bys Y), .int .u8 pr, .int .i64 n] [] (fun v h => some (v, h)) = some (.tup [.sl (some (6, 0)) (8 + 16 + 16) 0 false, .bool true], hRMk6TT1 pr n X Y) := by
  have e17 := adrB_17 (v := true) hX
  have f17 := adrB_17 (v := true) hY
  have eW := adrB_wf (v := true) hX
  have fW := adrB_wf (v := true) hY
  have eB := adrB_T X
  have fB := adrB_T Y
  have e16 := adrB_16 (v := true) hX
  have f16 := adrB_16 (v := true) hY
  have wn : IntKind.u16.wrap n = n := wrapU16 (by omega)
  rw [nfRMk6TT]
  simp only [↓Bool.and_eq_true, ↓decide_eq_true_eq, bOk, bOf, rowOk, rowOf, nOf_sl, List.getElem?_cons_zero, List.getElem?_cons_succ, Nat.zero_add, Nat.mul_one, Nat.add_zero, List.drop_zero, bys_drop, bys_take, bys_byteD, bys_isByteR, List.take_length, bys_length, intV_some, isIntV_byte, intV_byte, bys_get, beq_int, Bool.and_true, Bool.true_and, AV.beq_self, e17, f17, eW, fW, eB, fB, e16, f16, hX, hY, wn]
  repeat (first | (refine (if_pos ?_).trans ?_; · first | trivial | omega | (simp [capOf, hX, hY, cdec_true, isByteR, hn, hp]; done) | (simp [capOf, hX, hY, cdec_true, isByteR, hn, hp]; omega)) | (refine (if_neg ?_).trans ?_; · first | omega | (simp [hX, hY, cdec_true, isByteR, hn, hp]; done) | (simp [hX, hY, cdec_true, isByteR, hn, hp]; omega)))
  rfl

theorem sRMk6 : SoundE Try.prog 17 (entF eMk6) := by
  refine canonR_sound fun args h v h' hg => ?_
  unfold eMk6 at hg
  split at hg
  · rename_i cs ds pr n
    simp only [Option.some.injEq, Prod.mk.injEq, Bool.and_eq_true, decide_eq_true_eq] at hg
    obtain ⟨⟨hw, hw2, hp⟩, rfl, rfl⟩ := hg
    obtain ⟨v, X, rfl, hX⟩ := adrWf_B hw
    obtain ⟨u, Y, rfl, hY⟩ := adrWf_B hw2
    refine ⟨[.agg (.bool v :: bys X), .agg (.bool u :: bys Y), .int .u8 pr, .int .i64 n], [], .cons _ _ _ _ _ _ _ (.flat _ _ adrB_free) (.cons _ _ _ _ _ _ _ (.flat _ _ adrB_free) (.cons _ _ _ _ _ _ _ (.flat _ _ rfl) (.cons _ _ _ _ _ _ _ (.flat _ _ rfl) (.nil _)))), ?_⟩
    have none_of : ∀ {v u : Bool} {h1 : AHeap}, qrun Try.prog tRMk6 100 4 [] [] 17 [.agg (.bool v :: bys X), .agg (.bool u :: bys Y), .int .u8 pr, .int .i64 n] [] (fun v h => some (v, h)) = some (.tup [.sl none 0 0 true, .bool false], h1) → ¬ makes6 (.bool v :: bys X) (.bool u :: bys Y) n →
        ∃ v1 h1', Runs Try.prog 17 [.agg (.bool v :: bys X), .agg (.bool u :: bys Y), .int .u8 pr, .int .i64 n] [] v1 h1' ∧ ∃ ks new, h ++ [ownB (make6 (.bool v :: bys X) (.bool u :: bys Y) pr n)] = h ++ new ∧
          Den h1' ([] : AHeap).length h.length ks v1 (.tup [slB h.length (make6 (.bool v :: bys X) (.bool u :: bys Y) pr n), .bool (decide (makes6 (.bool v :: bys X) (.bool u :: bys Y) n))]) new ∧ KsOk ks := by
      intro v u h1 hq hv
      rw [make6_N hv, decide_eq_false hv]
      exact ⟨_, _, Runs.ofT0 tRMk6Ok hq, [none], _, rfl, denRB0, ksOk1 _⟩
    cases v
    · cases u
      · exact none_of (nfRMk6FF pr n X Y _) (fun h => by have := h.1; simp [adrV6] at this)
      · exact none_of (nfRMk6FT pr n X Y _) (fun h => by have := h.1; simp [adrV6] at this)
    cases u
    · exact none_of (nfRMk6TF pr n X Y _) (fun h => by have := h.2.1; simp [adrV6] at this)
    by_cases h0 : n < 0
    · exact none_of ((nfRMk6TT pr n X Y _).trans (if_pos (by simpa using h0))) (fun h => by have := h.2.2; omega)
    by_cases h1 : n > 65535
    · exact none_of ((nfRMk6TT pr n X Y _).trans ((if_neg (by simpa using h0)).trans (if_pos (by simpa using h1)))) (fun h => by have := h.2.2; omega)
    have hn : 0 ≤ n ∧ n ≤ 65535 := by omega
    obtain ⟨m1, m2⟩ := make6_T (X := X) (Y := Y) (pr := pr) hn
    rw [m2, decide_eq_true m1]
    exact ⟨_, _, Runs.ofT0 tRMk6Ok (runRMk6T X Y pr n hX hY hn hp), [some 6], _, rfl, denRB (by simp) rfl (by
          have w1 : IntKind.u8.wrap (n.fdiv 256) = ((u8i (n / 256)).toNat : Int) := by rw [wrapU8_byte, Int.fdiv_eq_ediv_of_nonneg _ (by omega)]
          have w3 : AV.int .u8 pr = AV.int .u8 (((u8i pr).toNat : Nat) : Int) := by rw [u8i_toNat]; congr 1; omega
          have eb : ([AV.int .u8 96, AV.int .u8 0, AV.int .u8 0, AV.int .u8 0, AV.int .u8 (((u8i (n / 256)).toNat : Nat) : Int), AV.int .u8 (((u8i n).toNat : Nat) : Int), AV.int .u8 (((u8i pr).toNat : Nat) : Int), AV.int .u8 64] : List AV) = bys [96, 0, 0, 0, u8i (n / 256), u8i n, u8i pr, 64] := rfl
          rw [adrB_17 (v := true) hX, adrB_17 (v := true) hY, adrB_T, adrB_T, w1, wrapU8_byte, w3, eb, hX, hY]
          have e2 : List.take 16 X = X := List.take_of_length_le (by omega)
          have e3 : List.take 16 Y = Y := List.take_of_length_le (by omega)
          simp only [Nat.mul_one, bys_take, e2, e3, bys_append]
          rw [List.take_of_length_le (by simp [hX])]) (by simp [hX, hY]), ksOk1 _⟩
  · simp at hg

end Go.Proofs.Ytjkkhbeidhpghaa.L