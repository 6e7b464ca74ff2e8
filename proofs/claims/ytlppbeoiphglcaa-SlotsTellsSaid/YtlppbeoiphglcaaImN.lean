/- slices.IndexFunc over members: its rows. -/
import Derived.Test.YtlppbeoiphglcaaShR
set_option autoImplicit false
set_option maxRecDepth 100000
set_option linter.unusedVariables false
set_option linter.unusedSimpArgs false
namespace Go.Proofs.Ytlppbeoiphglcaa.L
open Go Go.Abs
open Go.IntKind
open Go.Abs.AV (int)
open Go.Abs.ABlk (cells)

noncomputable abbrev IML := loopIn (bodyOf Try.prog 23) 0
def mIm : List Bool := List.replicate 2 true ++ List.replicate 2 false ++ List.replicate 1 true ++ List.replicate 2 false ++ List.replicate 2 true ++ List.replicate 10 false
def fIm : AV := .fn (.func 24) [.ptr (some (1, 0)), .ptr (some (3, 0))]
def vIm (n : Nat) (r i : Int) : List AV := [.sl (some (0, 0)) n 0 false, fIm, .int .i64 r, .int .i64 n, .int .i64 i]
def hIm (C O : List AV) (o : Nat) (j : Int) : AHeap := [.cells C 19 .far none, .cells [.sl (some (2, 0)) o 0 false] 1 .far none, .cells O 18 .far none, .cells [.int .i64 j] 1 .far none]

noncomputable def hIma0 (C O : List AV) (n o : Nat) (j i : Int) : AHeap := [ABlk.cells C 19 Md.far none, cells [AV.sl (some (2, 0)) o 0 false] 1 Md.far none, ABlk.cells O 18 Md.far none, cells [int i64 j] 1 Md.far none, cells (List.take 19 (List.drop (0 + i.toNat * 19) C)) 19 Md.own none]
theorem nfIma (C O : List AV) (n o : Nat) (j i : Int) :
 qround Try.prog [] 100 4 [(9, .bool true), (16, .bool false)] noT IML mIm (vIm n 0 i) (hIm C O o j) =
 (if decide (i < (n : Int)) = true then
 (if 0 ≤ i ∧ i < (n : Int) then
 (if 0 + i.toNat * 19 + 19 ≤ C.length then
 (if 18 ≤ (List.take 19 (List.drop (0 + i.toNat * 19) C)).length then
 (if 0 ≤ intV (some (int i64 j)) ∧ intV (some (int i64 j)) < (o : Int) then
 (if 0 + (intV (some (int i64 j))).toNat * 18 + 18 ≤ O.length then
 (if 17 ≤ (List.take 18 (List.take 19 (List.drop (0 + i.toNat * 19) C))).length then
 (if 17 ≤ (List.take 18 (List.drop (0 + (intV (some (int i64 j))).toNat * 18) O)).length then
 (if isBoolV (List.take 17 (List.take 18 (List.take 19 (List.drop (0 + i.toNat * 19) C))))[0]? = true then
 (if isBoolV (List.take 17 (List.take 18 (List.drop (0 + (intV (some (int i64 j))).toNat * 18) O)))[0]? = true then
 (if 17 ≤ (List.take 17 (List.take 18 (List.take 19 (List.drop (0 + i.toNat * 19) C)))).length then
 (if 17 ≤ (List.take 17 (List.take 18 (List.drop (0 + (intV (some (int i64 j))).toNat * 18) O))).length then
 (if isIntV u8 (List.take 16 (List.drop 1 (List.take 17 (List.take 18 (List.take 19 (List.drop (0 + i.toNat * 19) C))))))[0]? = true then
 (if isIntV u8 (List.take 16 (List.drop 1 (List.take 17 (List.take 18 (List.drop (0 + (intV (some (int i64 j))).toNat * 18) O)))))[0]? = true then
 (if isIntV u8 (List.take 16 (List.drop 1 (List.take 17 (List.take 18 (List.take 19 (List.drop (0 + i.toNat * 19) C))))))[1]? = true then
 (if isIntV u8 (List.take 16 (List.drop 1 (List.take 17 (List.take 18 (List.drop (0 + (intV (some (int i64 j))).toNat * 18) O)))))[1]? = true then
 (if isIntV u8 (List.take 16 (List.drop 1 (List.take 17 (List.take 18 (List.take 19 (List.drop (0 + i.toNat * 19) C))))))[2]? = true then
 (if isIntV u8 (List.take 16 (List.drop 1 (List.take 17 (List.take 18 (List.drop (0 + (intV (some (int i64 j))).toNat * 18) O)))))[2]? = true then
 (if isIntV u8 (List.take 16 (List.drop 1 (List.take 17 (List.take 18 (List.take 19 (List.drop (0 + i.toNat * 19) C))))))[3]? = true then
 (if isIntV u8 (List.take 16 (List.drop 1 (List.take 17 (List.take 18 (List.drop (0 + (intV (some (int i64 j))).toNat * 18) O)))))[3]? = true then
 (if isIntV u8 (List.take 16 (List.drop 1 (List.take 17 (List.take 18 (List.take 19 (List.drop (0 + i.toNat * 19) C))))))[4]? = true then
 (if isIntV u8 (List.take 16 (List.drop 1 (List.take 17 (List.take 18 (List.drop (0 + (intV (some (int i64 j))).toNat * 18) O)))))[4]? = true then
 (if isIntV u8 (List.take 16 (List.drop 1 (List.take 17 (List.take 18 (List.take 19 (List.drop (0 + i.toNat * 19) C))))))[5]? = true then
 (if isIntV u8 (List.take 16 (List.drop 1 (List.take 17 (List.take 18 (List.drop (0 + (intV (some (int i64 j))).toNat * 18) O)))))[5]? = true then
 (if isIntV u8 (List.take 16 (List.drop 1 (List.take 17 (List.take 18 (List.take 19 (List.drop (0 + i.toNat * 19) C))))))[6]? = true then
 (if isIntV u8 (List.take 16 (List.drop 1 (List.take 17 (List.take 18 (List.drop (0 + (intV (some (int i64 j))).toNat * 18) O)))))[6]? = true then
 (if isIntV u8 (List.take 16 (List.drop 1 (List.take 17 (List.take 18 (List.take 19 (List.drop (0 + i.toNat * 19) C))))))[7]? = true then
 (if isIntV u8 (List.take 16 (List.drop 1 (List.take 17 (List.take 18 (List.drop (0 + (intV (some (int i64 j))).toNat * 18) O)))))[7]? = true then
 (if isIntV u8 (List.take 16 (List.drop 1 (List.take 17 (List.take 18 (List.take 19 (List.drop (0 + i.toNat * 19) C))))))[8]? = true then
 (if isIntV u8 (List.take 16 (List.drop 1 (List.take 17 (List.take 18 (List.drop (0 + (intV (some (int i64 j))).toNat * 18) O)))))[8]? = true then
 (if isIntV u8 (List.take 16 (List.drop 1 (List.take 17 (List.take 18 (List.take 19 (List.drop (0 + i.toNat * 19) C))))))[9]? = true then
 (if isIntV u8 (List.take 16 (List.drop 1 (List.take 17 (List.take 18 (List.drop (0 + (intV (some (int i64 j))).toNat * 18) O)))))[9]? = true then
 (if isIntV u8 (List.take 16 (List.drop 1 (List.take 17 (List.take 18 (List.take 19 (List.drop (0 + i.toNat * 19) C))))))[10]? = true then
 (if isIntV u8 (List.take 16 (List.drop 1 (List.take 17 (List.take 18 (List.drop (0 + (intV (some (int i64 j))).toNat * 18) O)))))[10]? = true then
 (if isIntV u8 (List.take 16 (List.drop 1 (List.take 17 (List.take 18 (List.take 19 (List.drop (0 + i.toNat * 19) C))))))[11]? = true then
 (if isIntV u8 (List.take 16 (List.drop 1 (List.take 17 (List.take 18 (List.drop (0 + (intV (some (int i64 j))).toNat * 18) O)))))[11]? = true then
 (if isIntV u8 (List.take 16 (List.drop 1 (List.take 17 (List.take 18 (List.take 19 (List.drop (0 + i.toNat * 19) C))))))[12]? = true then
 (if isIntV u8 (List.take 16 (List.drop 1 (List.take 17 (List.take 18 (List.drop (0 + (intV (some (int i64 j))).toNat * 18) O)))))[12]? = true then
 (if isIntV u8 (List.take 16 (List.drop 1 (List.take 17 (List.take 18 (List.take 19 (List.drop (0 + i.toNat * 19) C))))))[13]? = true then
 (if isIntV u8 (List.take 16 (List.drop 1 (List.take 17 (List.take 18 (List.drop (0 + (intV (some (int i64 j))).toNat * 18) O)))))[13]? = true then
 (if isIntV u8 (List.take 16 (List.drop 1 (List.take 17 (List.take 18 (List.take 19 (List.drop (0 + i.toNat * 19) C))))))[14]? = true then
 (if isIntV u8 (List.take 16 (List.drop 1 (List.take 17 (List.take 18 (List.drop (0 + (intV (some (int i64 j))).toNat * 18) O)))))[14]? = true then
 (if isIntV u8 (List.take 16 (List.drop 1 (List.take 17 (List.take 18 (List.take 19 (List.drop (0 + i.toNat * 19) C))))))[15]? = true then
 (if isIntV u8 (List.take 16 (List.drop 1 (List.take 17 (List.take 18 (List.drop (0 + (intV (some (int i64 j))).toNat * 18) O)))))[15]? = true then
 (if isIntV u16 (List.take 18 (List.take 19 (List.drop (0 + i.toNat * 19) C)))[17]? = true then
 (if isIntV u16 (List.take 18 (List.drop (0 + (intV (some (int i64 j))).toNat * 18) O))[17]? = true then
 (if (boolV (List.take 17 (List.take 18 (List.take 19 (List.drop (0 + i.toNat * 19) C))))[0]? == boolV (List.take 17 (List.take 18 (List.drop (0 + (intV (some (int i64 j))).toNat * 18) O)))[0]? && (intV (List.take 16 (List.drop 1 (List.take 17 (List.take 18 (List.take 19 (List.drop (0 + i.toNat * 19) C))))))[0]? == intV (List.take 16 (List.drop 1 (List.take 17 (List.take 18 (List.drop (0 + (intV (some (int i64 j))).toNat * 18) O)))))[0]? && (intV (List.take 16 (List.drop 1 (List.take 17 (List.take 18 (List.take 19 (List.drop (0 + i.toNat * 19) C))))))[1]? == intV (List.take 16 (List.drop 1 (List.take 17 (List.take 18 (List.drop (0 + (intV (some (int i64 j))).toNat * 18) O)))))[1]? && (intV (List.take 16 (List.drop 1 (List.take 17 (List.take 18 (List.take 19 (List.drop (0 + i.toNat * 19) C))))))[2]? == intV (List.take 16 (List.drop 1 (List.take 17 (List.take 18 (List.drop (0 + (intV (some (int i64 j))).toNat * 18) O)))))[2]? && (intV (List.take 16 (List.drop 1 (List.take 17 (List.take 18 (List.take 19 (List.drop (0 + i.toNat * 19) C))))))[3]? == intV (List.take 16 (List.drop 1 (List.take 17 (List.take 18 (List.drop (0 + (intV (some (int i64 j))).toNat * 18) O)))))[3]? && (intV (List.take 16 (List.drop 1 (List.take 17 (List.take 18 (List.take 19 (List.drop (0 + i.toNat * 19) C))))))[4]? == intV (List.take 16 (List.drop 1 (List.take 17 (List.take 18 (List.drop (0 + (intV (some (int i64 j))).toNat * 18) O)))))[4]? && (intV (List.take 16 (List.drop 1 (List.take 17 (List.take 18 (List.take 19 (List.drop (0 + i.toNat * 19) C))))))[5]? == intV (List.take 16 (List.drop 1 (List.take 17 (List.take 18 (List.drop (0 + (intV (some (int i64 j))).toNat * 18) O)))))[5]? && (intV (List.take 16 (List.drop 1 (List.take 17 (List.take 18 (List.take 19 (List.drop (0 + i.toNat * 19) C))))))[6]? == intV (List.take 16 (List.drop 1 (List.take 17 (List.take 18 (List.drop (0 + (intV (some (int i64 j))).toNat * 18) O)))))[6]? && (intV (List.take 16 (List.drop 1 (List.take 17 (List.take 18 (List.take 19 (List.drop (0 + i.toNat * 19) C))))))[7]? == intV (List.take 16 (List.drop 1 (List.take 17 (List.take 18 (List.drop (0 + (intV (some (int i64 j))).toNat * 18) O)))))[7]? && (intV (List.take 16 (List.drop 1 (List.take 17 (List.take 18 (List.take 19 (List.drop (0 + i.toNat * 19) C))))))[8]? == intV (List.take 16 (List.drop 1 (List.take 17 (List.take 18 (List.drop (0 + (intV (some (int i64 j))).toNat * 18) O)))))[8]? && (intV (List.take 16 (List.drop 1 (List.take 17 (List.take 18 (List.take 19 (List.drop (0 + i.toNat * 19) C))))))[9]? == intV (List.take 16 (List.drop 1 (List.take 17 (List.take 18 (List.drop (0 + (intV (some (int i64 j))).toNat * 18) O)))))[9]? && (intV (List.take 16 (List.drop 1 (List.take 17 (List.take 18 (List.take 19 (List.drop (0 + i.toNat * 19) C))))))[10]? == intV (List.take 16 (List.drop 1 (List.take 17 (List.take 18 (List.drop (0 + (intV (some (int i64 j))).toNat * 18) O)))))[10]? && (intV (List.take 16 (List.drop 1 (List.take 17 (List.take 18 (List.take 19 (List.drop (0 + i.toNat * 19) C))))))[11]? == intV (List.take 16 (List.drop 1 (List.take 17 (List.take 18 (List.drop (0 + (intV (some (int i64 j))).toNat * 18) O)))))[11]? && (intV (List.take 16 (List.drop 1 (List.take 17 (List.take 18 (List.take 19 (List.drop (0 + i.toNat * 19) C))))))[12]? == intV (List.take 16 (List.drop 1 (List.take 17 (List.take 18 (List.drop (0 + (intV (some (int i64 j))).toNat * 18) O)))))[12]? && (intV (List.take 16 (List.drop 1 (List.take 17 (List.take 18 (List.take 19 (List.drop (0 + i.toNat * 19) C))))))[13]? == intV (List.take 16 (List.drop 1 (List.take 17 (List.take 18 (List.drop (0 + (intV (some (int i64 j))).toNat * 18) O)))))[13]? && (intV (List.take 16 (List.drop 1 (List.take 17 (List.take 18 (List.take 19 (List.drop (0 + i.toNat * 19) C))))))[14]? == intV (List.take 16 (List.drop 1 (List.take 17 (List.take 18 (List.drop (0 + (intV (some (int i64 j))).toNat * 18) O)))))[14]? && (intV (List.take 16 (List.drop 1 (List.take 17 (List.take 18 (List.take 19 (List.drop (0 + i.toNat * 19) C))))))[15]? == intV (List.take 16 (List.drop 1 (List.take 17 (List.take 18 (List.drop (0 + (intV (some (int i64 j))).toNat * 18) O)))))[15]? && true))))))))))))))) && true) && (intV (List.take 18 (List.take 19 (List.drop (0 + i.toNat * 19) C)))[17]? == intV (List.take 18 (List.drop (0 + (intV (some (int i64 j))).toNat * 18) O))[17]? && true)) = false then
 some ((AEx.norm, [AV.sl (some (0, 0)) n 0 false, AV.fn (Fn.func 24) [AV.ptr (some (1, 0)), AV.ptr (some (3, 0))], int i64 0, int i64 (n : Int), int i64 (i64.wrap (i + 1))], (hIma0 C O n o j i)))
 else none) else none) else none) else none) else none) else none) else none) else none) else none) else none) else none) else none) else none) else none) else none) else none) else none) else none) else none) else none) else none) else none) else none) else none) else none) else none) else none) else none) else none) else none) else none) else none) else none) else none) else none) else none) else none) else none) else none) else none) else none) else none) else none) else none) else none) else none) else none) := by
  kernel_rfl

noncomputable def hImb0 (C O : List AV) (n o : Nat) (j i : Int) : AHeap := [ABlk.cells C 19 Md.far none, cells [AV.sl (some (2, 0)) o 0 false] 1 Md.far none, ABlk.cells O 18 Md.far none, cells [int i64 j] 1 Md.far none, cells (List.take 19 (List.drop (0 + i.toNat * 19) C)) 19 Md.own none]
theorem nfImb (C O : List AV) (n o : Nat) (j i : Int) :
 qround Try.prog [] 100 4 [(9, .bool true), (16, .bool true)] noT IML mIm (vIm n 0 i) (hIm C O o j) =
 (if decide (i < (n : Int)) = true then
 (if 0 ≤ i ∧ i < (n : Int) then
 (if 0 + i.toNat * 19 + 19 ≤ C.length then
 (if 18 ≤ (List.take 19 (List.drop (0 + i.toNat * 19) C)).length then
 (if 0 ≤ intV (some (int i64 j)) ∧ intV (some (int i64 j)) < (o : Int) then
 (if 0 + (intV (some (int i64 j))).toNat * 18 + 18 ≤ O.length then
 (if 17 ≤ (List.take 18 (List.take 19 (List.drop (0 + i.toNat * 19) C))).length then
 (if 17 ≤ (List.take 18 (List.drop (0 + (intV (some (int i64 j))).toNat * 18) O)).length then
 (if isBoolV (List.take 17 (List.take 18 (List.take 19 (List.drop (0 + i.toNat * 19) C))))[0]? = true then
 (if isBoolV (List.take 17 (List.take 18 (List.drop (0 + (intV (some (int i64 j))).toNat * 18) O)))[0]? = true then
 (if 17 ≤ (List.take 17 (List.take 18 (List.take 19 (List.drop (0 + i.toNat * 19) C)))).length then
 (if 17 ≤ (List.take 17 (List.take 18 (List.drop (0 + (intV (some (int i64 j))).toNat * 18) O))).length then
 (if isIntV u8 (List.take 16 (List.drop 1 (List.take 17 (List.take 18 (List.take 19 (List.drop (0 + i.toNat * 19) C))))))[0]? = true then
 (if isIntV u8 (List.take 16 (List.drop 1 (List.take 17 (List.take 18 (List.drop (0 + (intV (some (int i64 j))).toNat * 18) O)))))[0]? = true then
 (if isIntV u8 (List.take 16 (List.drop 1 (List.take 17 (List.take 18 (List.take 19 (List.drop (0 + i.toNat * 19) C))))))[1]? = true then
 (if isIntV u8 (List.take 16 (List.drop 1 (List.take 17 (List.take 18 (List.drop (0 + (intV (some (int i64 j))).toNat * 18) O)))))[1]? = true then
 (if isIntV u8 (List.take 16 (List.drop 1 (List.take 17 (List.take 18 (List.take 19 (List.drop (0 + i.toNat * 19) C))))))[2]? = true then
 (if isIntV u8 (List.take 16 (List.drop 1 (List.take 17 (List.take 18 (List.drop (0 + (intV (some (int i64 j))).toNat * 18) O)))))[2]? = true then
 (if isIntV u8 (List.take 16 (List.drop 1 (List.take 17 (List.take 18 (List.take 19 (List.drop (0 + i.toNat * 19) C))))))[3]? = true then
 (if isIntV u8 (List.take 16 (List.drop 1 (List.take 17 (List.take 18 (List.drop (0 + (intV (some (int i64 j))).toNat * 18) O)))))[3]? = true then
 (if isIntV u8 (List.take 16 (List.drop 1 (List.take 17 (List.take 18 (List.take 19 (List.drop (0 + i.toNat * 19) C))))))[4]? = true then
 (if isIntV u8 (List.take 16 (List.drop 1 (List.take 17 (List.take 18 (List.drop (0 + (intV (some (int i64 j))).toNat * 18) O)))))[4]? = true then
 (if isIntV u8 (List.take 16 (List.drop 1 (List.take 17 (List.take 18 (List.take 19 (List.drop (0 + i.toNat * 19) C))))))[5]? = true then
 (if isIntV u8 (List.take 16 (List.drop 1 (List.take 17 (List.take 18 (List.drop (0 + (intV (some (int i64 j))).toNat * 18) O)))))[5]? = true then
 (if isIntV u8 (List.take 16 (List.drop 1 (List.take 17 (List.take 18 (List.take 19 (List.drop (0 + i.toNat * 19) C))))))[6]? = true then
 (if isIntV u8 (List.take 16 (List.drop 1 (List.take 17 (List.take 18 (List.drop (0 + (intV (some (int i64 j))).toNat * 18) O)))))[6]? = true then
 (if isIntV u8 (List.take 16 (List.drop 1 (List.take 17 (List.take 18 (List.take 19 (List.drop (0 + i.toNat * 19) C))))))[7]? = true then
 (if isIntV u8 (List.take 16 (List.drop 1 (List.take 17 (List.take 18 (List.drop (0 + (intV (some (int i64 j))).toNat * 18) O)))))[7]? = true then
 (if isIntV u8 (List.take 16 (List.drop 1 (List.take 17 (List.take 18 (List.take 19 (List.drop (0 + i.toNat * 19) C))))))[8]? = true then
 (if isIntV u8 (List.take 16 (List.drop 1 (List.take 17 (List.take 18 (List.drop (0 + (intV (some (int i64 j))).toNat * 18) O)))))[8]? = true then
 (if isIntV u8 (List.take 16 (List.drop 1 (List.take 17 (List.take 18 (List.take 19 (List.drop (0 + i.toNat * 19) C))))))[9]? = true then
 (if isIntV u8 (List.take 16 (List.drop 1 (List.take 17 (List.take 18 (List.drop (0 + (intV (some (int i64 j))).toNat * 18) O)))))[9]? = true then
 (if isIntV u8 (List.take 16 (List.drop 1 (List.take 17 (List.take 18 (List.take 19 (List.drop (0 + i.toNat * 19) C))))))[10]? = true then
 (if isIntV u8 (List.take 16 (List.drop 1 (List.take 17 (List.take 18 (List.drop (0 + (intV (some (int i64 j))).toNat * 18) O)))))[10]? = true then
 (if isIntV u8 (List.take 16 (List.drop 1 (List.take 17 (List.take 18 (List.take 19 (List.drop (0 + i.toNat * 19) C))))))[11]? = true then
 (if isIntV u8 (List.take 16 (List.drop 1 (List.take 17 (List.take 18 (List.drop (0 + (intV (some (int i64 j))).toNat * 18) O)))))[11]? = true then
 (if isIntV u8 (List.take 16 (List.drop 1 (List.take 17 (List.take 18 (List.take 19 (List.drop (0 + i.toNat * 19) C))))))[12]? = true then
 (if isIntV u8 (List.take 16 (List.drop 1 (List.take 17 (List.take 18 (List.drop (0 + (intV (some (int i64 j))).toNat * 18) O)))))[12]? = true then
 (if isIntV u8 (List.take 16 (List.drop 1 (List.take 17 (List.take 18 (List.take 19 (List.drop (0 + i.toNat * 19) C))))))[13]? = true then
 (if isIntV u8 (List.take 16 (List.drop 1 (List.take 17 (List.take 18 (List.drop (0 + (intV (some (int i64 j))).toNat * 18) O)))))[13]? = true then
 (if isIntV u8 (List.take 16 (List.drop 1 (List.take 17 (List.take 18 (List.take 19 (List.drop (0 + i.toNat * 19) C))))))[14]? = true then
 (if isIntV u8 (List.take 16 (List.drop 1 (List.take 17 (List.take 18 (List.drop (0 + (intV (some (int i64 j))).toNat * 18) O)))))[14]? = true then
 (if isIntV u8 (List.take 16 (List.drop 1 (List.take 17 (List.take 18 (List.take 19 (List.drop (0 + i.toNat * 19) C))))))[15]? = true then
 (if isIntV u8 (List.take 16 (List.drop 1 (List.take 17 (List.take 18 (List.drop (0 + (intV (some (int i64 j))).toNat * 18) O)))))[15]? = true then
 (if isIntV u16 (List.take 18 (List.take 19 (List.drop (0 + i.toNat * 19) C)))[17]? = true then
 (if isIntV u16 (List.take 18 (List.drop (0 + (intV (some (int i64 j))).toNat * 18) O))[17]? = true then
 (if (boolV (List.take 17 (List.take 18 (List.take 19 (List.drop (0 + i.toNat * 19) C))))[0]? == boolV (List.take 17 (List.take 18 (List.drop (0 + (intV (some (int i64 j))).toNat * 18) O)))[0]? && (intV (List.take 16 (List.drop 1 (List.take 17 (List.take 18 (List.take 19 (List.drop (0 + i.toNat * 19) C))))))[0]? == intV (List.take 16 (List.drop 1 (List.take 17 (List.take 18 (List.drop (0 + (intV (some (int i64 j))).toNat * 18) O)))))[0]? && (intV (List.take 16 (List.drop 1 (List.take 17 (List.take 18 (List.take 19 (List.drop (0 + i.toNat * 19) C))))))[1]? == intV (List.take 16 (List.drop 1 (List.take 17 (List.take 18 (List.drop (0 + (intV (some (int i64 j))).toNat * 18) O)))))[1]? && (intV (List.take 16 (List.drop 1 (List.take 17 (List.take 18 (List.take 19 (List.drop (0 + i.toNat * 19) C))))))[2]? == intV (List.take 16 (List.drop 1 (List.take 17 (List.take 18 (List.drop (0 + (intV (some (int i64 j))).toNat * 18) O)))))[2]? && (intV (List.take 16 (List.drop 1 (List.take 17 (List.take 18 (List.take 19 (List.drop (0 + i.toNat * 19) C))))))[3]? == intV (List.take 16 (List.drop 1 (List.take 17 (List.take 18 (List.drop (0 + (intV (some (int i64 j))).toNat * 18) O)))))[3]? && (intV (List.take 16 (List.drop 1 (List.take 17 (List.take 18 (List.take 19 (List.drop (0 + i.toNat * 19) C))))))[4]? == intV (List.take 16 (List.drop 1 (List.take 17 (List.take 18 (List.drop (0 + (intV (some (int i64 j))).toNat * 18) O)))))[4]? && (intV (List.take 16 (List.drop 1 (List.take 17 (List.take 18 (List.take 19 (List.drop (0 + i.toNat * 19) C))))))[5]? == intV (List.take 16 (List.drop 1 (List.take 17 (List.take 18 (List.drop (0 + (intV (some (int i64 j))).toNat * 18) O)))))[5]? && (intV (List.take 16 (List.drop 1 (List.take 17 (List.take 18 (List.take 19 (List.drop (0 + i.toNat * 19) C))))))[6]? == intV (List.take 16 (List.drop 1 (List.take 17 (List.take 18 (List.drop (0 + (intV (some (int i64 j))).toNat * 18) O)))))[6]? && (intV (List.take 16 (List.drop 1 (List.take 17 (List.take 18 (List.take 19 (List.drop (0 + i.toNat * 19) C))))))[7]? == intV (List.take 16 (List.drop 1 (List.take 17 (List.take 18 (List.drop (0 + (intV (some (int i64 j))).toNat * 18) O)))))[7]? && (intV (List.take 16 (List.drop 1 (List.take 17 (List.take 18 (List.take 19 (List.drop (0 + i.toNat * 19) C))))))[8]? == intV (List.take 16 (List.drop 1 (List.take 17 (List.take 18 (List.drop (0 + (intV (some (int i64 j))).toNat * 18) O)))))[8]? && (intV (List.take 16 (List.drop 1 (List.take 17 (List.take 18 (List.take 19 (List.drop (0 + i.toNat * 19) C))))))[9]? == intV (List.take 16 (List.drop 1 (List.take 17 (List.take 18 (List.drop (0 + (intV (some (int i64 j))).toNat * 18) O)))))[9]? && (intV (List.take 16 (List.drop 1 (List.take 17 (List.take 18 (List.take 19 (List.drop (0 + i.toNat * 19) C))))))[10]? == intV (List.take 16 (List.drop 1 (List.take 17 (List.take 18 (List.drop (0 + (intV (some (int i64 j))).toNat * 18) O)))))[10]? && (intV (List.take 16 (List.drop 1 (List.take 17 (List.take 18 (List.take 19 (List.drop (0 + i.toNat * 19) C))))))[11]? == intV (List.take 16 (List.drop 1 (List.take 17 (List.take 18 (List.drop (0 + (intV (some (int i64 j))).toNat * 18) O)))))[11]? && (intV (List.take 16 (List.drop 1 (List.take 17 (List.take 18 (List.take 19 (List.drop (0 + i.toNat * 19) C))))))[12]? == intV (List.take 16 (List.drop 1 (List.take 17 (List.take 18 (List.drop (0 + (intV (some (int i64 j))).toNat * 18) O)))))[12]? && (intV (List.take 16 (List.drop 1 (List.take 17 (List.take 18 (List.take 19 (List.drop (0 + i.toNat * 19) C))))))[13]? == intV (List.take 16 (List.drop 1 (List.take 17 (List.take 18 (List.drop (0 + (intV (some (int i64 j))).toNat * 18) O)))))[13]? && (intV (List.take 16 (List.drop 1 (List.take 17 (List.take 18 (List.take 19 (List.drop (0 + i.toNat * 19) C))))))[14]? == intV (List.take 16 (List.drop 1 (List.take 17 (List.take 18 (List.drop (0 + (intV (some (int i64 j))).toNat * 18) O)))))[14]? && (intV (List.take 16 (List.drop 1 (List.take 17 (List.take 18 (List.take 19 (List.drop (0 + i.toNat * 19) C))))))[15]? == intV (List.take 16 (List.drop 1 (List.take 17 (List.take 18 (List.drop (0 + (intV (some (int i64 j))).toNat * 18) O)))))[15]? && true))))))))))))))) && true) && (intV (List.take 18 (List.take 19 (List.drop (0 + i.toNat * 19) C)))[17]? == intV (List.take 18 (List.drop (0 + (intV (some (int i64 j))).toNat * 18) O))[17]? && true)) = true then
 some ((AEx.ret, [AV.sl (some (0, 0)) n 0 false, AV.fn (Fn.func 24) [AV.ptr (some (1, 0)), AV.ptr (some (3, 0))], int i64 i, int i64 (n : Int), int i64 i], (hImb0 C O n o j i)))
 else none) else none) else none) else none) else none) else none) else none) else none) else none) else none) else none) else none) else none) else none) else none) else none) else none) else none) else none) else none) else none) else none) else none) else none) else none) else none) else none) else none) else none) else none) else none) else none) else none) else none) else none) else none) else none) else none) else none) else none) else none) else none) else none) else none) else none) else none) else none) := by
  kernel_rfl

noncomputable def hIms0 (C O : List AV) (n o : Nat) (j i : Int) : AHeap := [ABlk.cells C 19 Md.far none, cells [AV.sl (some (2, 0)) o 0 false] 1 Md.far none, ABlk.cells O 18 Md.far none, cells [int i64 j] 1 Md.far none]
theorem nfIms (C O : List AV) (n o : Nat) (j i : Int) :
 qround Try.prog [] 100 4 [(9, .bool false)] noT IML mIm (vIm n 0 i) (hIm C O o j) =
 (if decide (i < (n : Int)) = false then
 some ((AEx.exit 0, [AV.sl (some (0, 0)) n 0 false, AV.fn (Fn.func 24) [AV.ptr (some (1, 0)), AV.ptr (some (3, 0))], int i64 0, int i64 (n : Int), int i64 i], (hIms0 C O n o j i)))
 else none) := by
  kernel_rfl

noncomputable def hIme0 (q : Prop) (C O : List AV) (n o : Nat) (j r i : Int) : AHeap := [ABlk.cells C 19 Md.far none, cells [AV.sl (some (2, 0)) o 0 false] 1 Md.far none, ABlk.cells O 18 Md.far none, cells [int i64 j] 1 Md.far none]
theorem nfIme {R : Type} (q : Prop) (C O : List AV) (n o : Nat) (j r i : Int) (K : AV → AHeap → Option R) :
 qrun Try.prog [] 100 4 [] [(2, fixC q mIm (vIm n 0 0) (hIm C O o j) (.exit 0) (vIm n r i) (hIm C O o j))] 23 [.sl (some (0, 0)) n 0 false, fIm] (hIm C O o j) K =
 (if cdec (q ∧ [AV.sl (some (0, 0)) n 0 false, AV.fn (Fn.func 24) [AV.ptr (some (1, 0)), AV.ptr (some (3, 0))], int i64 0, int i64 (n : Int), int i64 0] = [AV.sl (some (0, 0)) n 0 false, fIm, int i64 0, int i64 (n : Int), int i64 0] ∧ (hIme0 q C O n o j r i) = (hIme0 q C O n o j r i)) = true then
 K (int i64 (-1)) ((hIme0 q C O n o j r i))
 else none) := by
  kernel_rfl

noncomputable def hImr0 (q : Prop) (C O : List AV) (n o : Nat) (j r i : Int) : AHeap := [ABlk.cells C 19 Md.far none, cells [AV.sl (some (2, 0)) o 0 false] 1 Md.far none, ABlk.cells O 18 Md.far none, cells [int i64 j] 1 Md.far none]
theorem nfImr {R : Type} (q : Prop) (C O : List AV) (n o : Nat) (j r i : Int) (K : AV → AHeap → Option R) :
 qrun Try.prog [] 100 4 [] [(2, fixC q mIm (vIm n 0 0) (hIm C O o j) .ret (vIm n r i) (hIm C O o j))] 23 [.sl (some (0, 0)) n 0 false, fIm] (hIm C O o j) K =
 (if cdec (q ∧ [AV.sl (some (0, 0)) n 0 false, AV.fn (Fn.func 24) [AV.ptr (some (1, 0)), AV.ptr (some (3, 0))], int i64 0, int i64 (n : Int), int i64 0] = [AV.sl (some (0, 0)) n 0 false, fIm, int i64 0, int i64 (n : Int), int i64 0] ∧ (hImr0 q C O n o j r i) = (hImr0 q C O n o j r i)) = true then
 K (int i64 r) ((hImr0 q C O n o j r i))
 else none) := by
  kernel_rfl


end Go.Proofs.Ytlppbeoiphglcaa.L
