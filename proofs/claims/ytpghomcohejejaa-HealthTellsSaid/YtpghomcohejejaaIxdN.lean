/- slices.IndexFunc over DIPs: its rows. -/
import Derived.Test.YtpghomcohejejaaBase
import Derived.Test.YtpghomcohejejaaOctB
import Derived.Test.YtpghomcohejejaaDipKit
set_option autoImplicit false
set_option maxRecDepth 100000
set_option linter.unusedVariables false
namespace Go.Proofs.Ytpghomcohejejaa.L
open Go Go.Abs
open Go.IntKind
open Go.Abs.AV (int)
open Go.Abs.ABlk (cells)

def mIxd : List Bool := [true, true, false, false, true, false, false, true, true] ++ List.replicate 10 false
noncomputable abbrev LIxd := loopIn (bodyOf Try.prog 22) 0
def fIxd : AV := .fn (.func 19) [.ptr (some (1, 0))]
def vIxd (n : Nat) (r i : Int) : List AV := [.sl (some (0, 0)) n 0 false, fIxd, .int .i64 r, .int .i64 n, .int .i64 i]
def hIxd (C D : List AV) : AHeap := [.cells C 18 .far none, .cells D 18 .far none]
noncomputable def hIxda0 (n : Nat) (i : Int) (C D : List AV) : AHeap := [ABlk.cells C 18 Md.far none, ABlk.cells D 18 Md.far none, cells (List.take 18 (List.drop (0 + i.toNat * 18) C)) 18 Md.own none]
theorem nfIxda (n : Nat) (i : Int) (C D : List AV) :
 qround Try.prog [] 100 4 [(9, .bool true), (16, .bool false)] noT LIxd mIxd (vIxd n 0 i) (hIxd C D) =
 (if decide (i < (n : Int)) = true then
 (if 0 ≤ i ∧ i < (n : Int) then
 (if 0 + i.toNat * 18 + 18 ≤ C.length then
 (if 18 ≤ (List.take 18 (List.drop (0 + i.toNat * 18) C)).length then
 (if 18 ≤ D.length then
 (if 17 ≤ (List.take 18 (List.take 18 (List.drop (0 + i.toNat * 18) C))).length then
 (if 17 ≤ (List.take 18 D).length then
 (if isBoolV (List.take 17 (List.take 18 (List.take 18 (List.drop (0 + i.toNat * 18) C))))[0]? = true then
 (if isBoolV (List.take 17 (List.take 18 D))[0]? = true then
 (if 17 ≤ (List.take 17 (List.take 18 (List.take 18 (List.drop (0 + i.toNat * 18) C)))).length then
 (if 17 ≤ (List.take 17 (List.take 18 D)).length then
 (if isIntV u8 (List.take 16 (List.drop 1 (List.take 17 (List.take 18 (List.take 18 (List.drop (0 + i.toNat * 18) C))))))[0]? = true then
 (if isIntV u8 (List.take 16 (List.drop 1 (List.take 17 (List.take 18 D))))[0]? = true then
 (if isIntV u8 (List.take 16 (List.drop 1 (List.take 17 (List.take 18 (List.take 18 (List.drop (0 + i.toNat * 18) C))))))[1]? = true then
 (if isIntV u8 (List.take 16 (List.drop 1 (List.take 17 (List.take 18 D))))[1]? = true then
 (if isIntV u8 (List.take 16 (List.drop 1 (List.take 17 (List.take 18 (List.take 18 (List.drop (0 + i.toNat * 18) C))))))[2]? = true then
 (if isIntV u8 (List.take 16 (List.drop 1 (List.take 17 (List.take 18 D))))[2]? = true then
 (if isIntV u8 (List.take 16 (List.drop 1 (List.take 17 (List.take 18 (List.take 18 (List.drop (0 + i.toNat * 18) C))))))[3]? = true then
 (if isIntV u8 (List.take 16 (List.drop 1 (List.take 17 (List.take 18 D))))[3]? = true then
 (if isIntV u8 (List.take 16 (List.drop 1 (List.take 17 (List.take 18 (List.take 18 (List.drop (0 + i.toNat * 18) C))))))[4]? = true then
 (if isIntV u8 (List.take 16 (List.drop 1 (List.take 17 (List.take 18 D))))[4]? = true then
 (if isIntV u8 (List.take 16 (List.drop 1 (List.take 17 (List.take 18 (List.take 18 (List.drop (0 + i.toNat * 18) C))))))[5]? = true then
 (if isIntV u8 (List.take 16 (List.drop 1 (List.take 17 (List.take 18 D))))[5]? = true then
 (if isIntV u8 (List.take 16 (List.drop 1 (List.take 17 (List.take 18 (List.take 18 (List.drop (0 + i.toNat * 18) C))))))[6]? = true then
 (if isIntV u8 (List.take 16 (List.drop 1 (List.take 17 (List.take 18 D))))[6]? = true then
 (if isIntV u8 (List.take 16 (List.drop 1 (List.take 17 (List.take 18 (List.take 18 (List.drop (0 + i.toNat * 18) C))))))[7]? = true then
 (if isIntV u8 (List.take 16 (List.drop 1 (List.take 17 (List.take 18 D))))[7]? = true then
 (if isIntV u8 (List.take 16 (List.drop 1 (List.take 17 (List.take 18 (List.take 18 (List.drop (0 + i.toNat * 18) C))))))[8]? = true then
 (if isIntV u8 (List.take 16 (List.drop 1 (List.take 17 (List.take 18 D))))[8]? = true then
 (if isIntV u8 (List.take 16 (List.drop 1 (List.take 17 (List.take 18 (List.take 18 (List.drop (0 + i.toNat * 18) C))))))[9]? = true then
 (if isIntV u8 (List.take 16 (List.drop 1 (List.take 17 (List.take 18 D))))[9]? = true then
 (if isIntV u8 (List.take 16 (List.drop 1 (List.take 17 (List.take 18 (List.take 18 (List.drop (0 + i.toNat * 18) C))))))[10]? = true then
 (if isIntV u8 (List.take 16 (List.drop 1 (List.take 17 (List.take 18 D))))[10]? = true then
 (if isIntV u8 (List.take 16 (List.drop 1 (List.take 17 (List.take 18 (List.take 18 (List.drop (0 + i.toNat * 18) C))))))[11]? = true then
 (if isIntV u8 (List.take 16 (List.drop 1 (List.take 17 (List.take 18 D))))[11]? = true then
 (if isIntV u8 (List.take 16 (List.drop 1 (List.take 17 (List.take 18 (List.take 18 (List.drop (0 + i.toNat * 18) C))))))[12]? = true then
 (if isIntV u8 (List.take 16 (List.drop 1 (List.take 17 (List.take 18 D))))[12]? = true then
 (if isIntV u8 (List.take 16 (List.drop 1 (List.take 17 (List.take 18 (List.take 18 (List.drop (0 + i.toNat * 18) C))))))[13]? = true then
 (if isIntV u8 (List.take 16 (List.drop 1 (List.take 17 (List.take 18 D))))[13]? = true then
 (if isIntV u8 (List.take 16 (List.drop 1 (List.take 17 (List.take 18 (List.take 18 (List.drop (0 + i.toNat * 18) C))))))[14]? = true then
 (if isIntV u8 (List.take 16 (List.drop 1 (List.take 17 (List.take 18 D))))[14]? = true then
 (if isIntV u8 (List.take 16 (List.drop 1 (List.take 17 (List.take 18 (List.take 18 (List.drop (0 + i.toNat * 18) C))))))[15]? = true then
 (if isIntV u8 (List.take 16 (List.drop 1 (List.take 17 (List.take 18 D))))[15]? = true then
 (if isIntV u16 (List.take 18 (List.take 18 (List.drop (0 + i.toNat * 18) C)))[17]? = true then
 (if isIntV u16 (List.take 18 D)[17]? = true then
 (if (boolV (List.take 17 (List.take 18 (List.take 18 (List.drop (0 + i.toNat * 18) C))))[0]? == boolV (List.take 17 (List.take 18 D))[0]? && (intV (List.take 16 (List.drop 1 (List.take 17 (List.take 18 (List.take 18 (List.drop (0 + i.toNat * 18) C))))))[0]? == intV (List.take 16 (List.drop 1 (List.take 17 (List.take 18 D))))[0]? && (intV (List.take 16 (List.drop 1 (List.take 17 (List.take 18 (List.take 18 (List.drop (0 + i.toNat * 18) C))))))[1]? == intV (List.take 16 (List.drop 1 (List.take 17 (List.take 18 D))))[1]? && (intV (List.take 16 (List.drop 1 (List.take 17 (List.take 18 (List.take 18 (List.drop (0 + i.toNat * 18) C))))))[2]? == intV (List.take 16 (List.drop 1 (List.take 17 (List.take 18 D))))[2]? && (intV (List.take 16 (List.drop 1 (List.take 17 (List.take 18 (List.take 18 (List.drop (0 + i.toNat * 18) C))))))[3]? == intV (List.take 16 (List.drop 1 (List.take 17 (List.take 18 D))))[3]? && (intV (List.take 16 (List.drop 1 (List.take 17 (List.take 18 (List.take 18 (List.drop (0 + i.toNat * 18) C))))))[4]? == intV (List.take 16 (List.drop 1 (List.take 17 (List.take 18 D))))[4]? && (intV (List.take 16 (List.drop 1 (List.take 17 (List.take 18 (List.take 18 (List.drop (0 + i.toNat * 18) C))))))[5]? == intV (List.take 16 (List.drop 1 (List.take 17 (List.take 18 D))))[5]? && (intV (List.take 16 (List.drop 1 (List.take 17 (List.take 18 (List.take 18 (List.drop (0 + i.toNat * 18) C))))))[6]? == intV (List.take 16 (List.drop 1 (List.take 17 (List.take 18 D))))[6]? && (intV (List.take 16 (List.drop 1 (List.take 17 (List.take 18 (List.take 18 (List.drop (0 + i.toNat * 18) C))))))[7]? == intV (List.take 16 (List.drop 1 (List.take 17 (List.take 18 D))))[7]? && (intV (List.take 16 (List.drop 1 (List.take 17 (List.take 18 (List.take 18 (List.drop (0 + i.toNat * 18) C))))))[8]? == intV (List.take 16 (List.drop 1 (List.take 17 (List.take 18 D))))[8]? && (intV (List.take 16 (List.drop 1 (List.take 17 (List.take 18 (List.take 18 (List.drop (0 + i.toNat * 18) C))))))[9]? == intV (List.take 16 (List.drop 1 (List.take 17 (List.take 18 D))))[9]? && (intV (List.take 16 (List.drop 1 (List.take 17 (List.take 18 (List.take 18 (List.drop (0 + i.toNat * 18) C))))))[10]? == intV (List.take 16 (List.drop 1 (List.take 17 (List.take 18 D))))[10]? && (intV (List.take 16 (List.drop 1 (List.take 17 (List.take 18 (List.take 18 (List.drop (0 + i.toNat * 18) C))))))[11]? == intV (List.take 16 (List.drop 1 (List.take 17 (List.take 18 D))))[11]? && (intV (List.take 16 (List.drop 1 (List.take 17 (List.take 18 (List.take 18 (List.drop (0 + i.toNat * 18) C))))))[12]? == intV (List.take 16 (List.drop 1 (List.take 17 (List.take 18 D))))[12]? && (intV (List.take 16 (List.drop 1 (List.take 17 (List.take 18 (List.take 18 (List.drop (0 + i.toNat * 18) C))))))[13]? == intV (List.take 16 (List.drop 1 (List.take 17 (List.take 18 D))))[13]? && (intV (List.take 16 (List.drop 1 (List.take 17 (List.take 18 (List.take 18 (List.drop (0 + i.toNat * 18) C))))))[14]? == intV (List.take 16 (List.drop 1 (List.take 17 (List.take 18 D))))[14]? && (intV (List.take 16 (List.drop 1 (List.take 17 (List.take 18 (List.take 18 (List.drop (0 + i.toNat * 18) C))))))[15]? == intV (List.take 16 (List.drop 1 (List.take 17 (List.take 18 D))))[15]? && true))))))))))))))) && true) && (intV (List.take 18 (List.take 18 (List.drop (0 + i.toNat * 18) C)))[17]? == intV (List.take 18 D)[17]? && true)) = false then
 some ((AEx.norm, [AV.sl (some (0, 0)) n 0 false, AV.fn (Fn.func 19) [AV.ptr (some (1, 0))], int i64 0, int i64 (n : Int), int i64 (i64.wrap (i + 1))], (hIxda0 n i C D)))
 else none) else none) else none) else none) else none) else none) else none) else none) else none) else none) else none) else none) else none) else none) else none) else none) else none) else none) else none) else none) else none) else none) else none) else none) else none) else none) else none) else none) else none) else none) else none) else none) else none) else none) else none) else none) else none) else none) else none) else none) else none) else none) else none) else none) else none) else none) := by
  kernel_rfl

noncomputable def hIxdb0 (n : Nat) (i : Int) (C D : List AV) : AHeap := [ABlk.cells C 18 Md.far none, ABlk.cells D 18 Md.far none, cells (List.take 18 (List.drop (0 + i.toNat * 18) C)) 18 Md.own none]
theorem nfIxdb (n : Nat) (i : Int) (C D : List AV) :
 qround Try.prog [] 100 4 [(9, .bool true), (16, .bool true)] noT LIxd mIxd (vIxd n 0 i) (hIxd C D) =
 (if decide (i < (n : Int)) = true then
 (if 0 ≤ i ∧ i < (n : Int) then
 (if 0 + i.toNat * 18 + 18 ≤ C.length then
 (if 18 ≤ (List.take 18 (List.drop (0 + i.toNat * 18) C)).length then
 (if 18 ≤ D.length then
 (if 17 ≤ (List.take 18 (List.take 18 (List.drop (0 + i.toNat * 18) C))).length then
 (if 17 ≤ (List.take 18 D).length then
 (if isBoolV (List.take 17 (List.take 18 (List.take 18 (List.drop (0 + i.toNat * 18) C))))[0]? = true then
 (if isBoolV (List.take 17 (List.take 18 D))[0]? = true then
 (if 17 ≤ (List.take 17 (List.take 18 (List.take 18 (List.drop (0 + i.toNat * 18) C)))).length then
 (if 17 ≤ (List.take 17 (List.take 18 D)).length then
 (if isIntV u8 (List.take 16 (List.drop 1 (List.take 17 (List.take 18 (List.take 18 (List.drop (0 + i.toNat * 18) C))))))[0]? = true then
 (if isIntV u8 (List.take 16 (List.drop 1 (List.take 17 (List.take 18 D))))[0]? = true then
 (if isIntV u8 (List.take 16 (List.drop 1 (List.take 17 (List.take 18 (List.take 18 (List.drop (0 + i.toNat * 18) C))))))[1]? = true then
 (if isIntV u8 (List.take 16 (List.drop 1 (List.take 17 (List.take 18 D))))[1]? = true then
 (if isIntV u8 (List.take 16 (List.drop 1 (List.take 17 (List.take 18 (List.take 18 (List.drop (0 + i.toNat * 18) C))))))[2]? = true then
 (if isIntV u8 (List.take 16 (List.drop 1 (List.take 17 (List.take 18 D))))[2]? = true then
 (if isIntV u8 (List.take 16 (List.drop 1 (List.take 17 (List.take 18 (List.take 18 (List.drop (0 + i.toNat * 18) C))))))[3]? = true then
 (if isIntV u8 (List.take 16 (List.drop 1 (List.take 17 (List.take 18 D))))[3]? = true then
 (if isIntV u8 (List.take 16 (List.drop 1 (List.take 17 (List.take 18 (List.take 18 (List.drop (0 + i.toNat * 18) C))))))[4]? = true then
 (if isIntV u8 (List.take 16 (List.drop 1 (List.take 17 (List.take 18 D))))[4]? = true then
 (if isIntV u8 (List.take 16 (List.drop 1 (List.take 17 (List.take 18 (List.take 18 (List.drop (0 + i.toNat * 18) C))))))[5]? = true then
 (if isIntV u8 (List.take 16 (List.drop 1 (List.take 17 (List.take 18 D))))[5]? = true then
 (if isIntV u8 (List.take 16 (List.drop 1 (List.take 17 (List.take 18 (List.take 18 (List.drop (0 + i.toNat * 18) C))))))[6]? = true then
 (if isIntV u8 (List.take 16 (List.drop 1 (List.take 17 (List.take 18 D))))[6]? = true then
 (if isIntV u8 (List.take 16 (List.drop 1 (List.take 17 (List.take 18 (List.take 18 (List.drop (0 + i.toNat * 18) C))))))[7]? = true then
 (if isIntV u8 (List.take 16 (List.drop 1 (List.take 17 (List.take 18 D))))[7]? = true then
 (if isIntV u8 (List.take 16 (List.drop 1 (List.take 17 (List.take 18 (List.take 18 (List.drop (0 + i.toNat * 18) C))))))[8]? = true then
 (if isIntV u8 (List.take 16 (List.drop 1 (List.take 17 (List.take 18 D))))[8]? = true then
 (if isIntV u8 (List.take 16 (List.drop 1 (List.take 17 (List.take 18 (List.take 18 (List.drop (0 + i.toNat * 18) C))))))[9]? = true then
 (if isIntV u8 (List.take 16 (List.drop 1 (List.take 17 (List.take 18 D))))[9]? = true then
 (if isIntV u8 (List.take 16 (List.drop 1 (List.take 17 (List.take 18 (List.take 18 (List.drop (0 + i.toNat * 18) C))))))[10]? = true then
 (if isIntV u8 (List.take 16 (List.drop 1 (List.take 17 (List.take 18 D))))[10]? = true then
 (if isIntV u8 (List.take 16 (List.drop 1 (List.take 17 (List.take 18 (List.take 18 (List.drop (0 + i.toNat * 18) C))))))[11]? = true then
 (if isIntV u8 (List.take 16 (List.drop 1 (List.take 17 (List.take 18 D))))[11]? = true then
 (if isIntV u8 (List.take 16 (List.drop 1 (List.take 17 (List.take 18 (List.take 18 (List.drop (0 + i.toNat * 18) C))))))[12]? = true then
 (if isIntV u8 (List.take 16 (List.drop 1 (List.take 17 (List.take 18 D))))[12]? = true then
 (if isIntV u8 (List.take 16 (List.drop 1 (List.take 17 (List.take 18 (List.take 18 (List.drop (0 + i.toNat * 18) C))))))[13]? = true then
 (if isIntV u8 (List.take 16 (List.drop 1 (List.take 17 (List.take 18 D))))[13]? = true then
 (if isIntV u8 (List.take 16 (List.drop 1 (List.take 17 (List.take 18 (List.take 18 (List.drop (0 + i.toNat * 18) C))))))[14]? = true then
 (if isIntV u8 (List.take 16 (List.drop 1 (List.take 17 (List.take 18 D))))[14]? = true then
 (if isIntV u8 (List.take 16 (List.drop 1 (List.take 17 (List.take 18 (List.take 18 (List.drop (0 + i.toNat * 18) C))))))[15]? = true then
 (if isIntV u8 (List.take 16 (List.drop 1 (List.take 17 (List.take 18 D))))[15]? = true then
 (if isIntV u16 (List.take 18 (List.take 18 (List.drop (0 + i.toNat * 18) C)))[17]? = true then
 (if isIntV u16 (List.take 18 D)[17]? = true then
 (if (boolV (List.take 17 (List.take 18 (List.take 18 (List.drop (0 + i.toNat * 18) C))))[0]? == boolV (List.take 17 (List.take 18 D))[0]? && (intV (List.take 16 (List.drop 1 (List.take 17 (List.take 18 (List.take 18 (List.drop (0 + i.toNat * 18) C))))))[0]? == intV (List.take 16 (List.drop 1 (List.take 17 (List.take 18 D))))[0]? && (intV (List.take 16 (List.drop 1 (List.take 17 (List.take 18 (List.take 18 (List.drop (0 + i.toNat * 18) C))))))[1]? == intV (List.take 16 (List.drop 1 (List.take 17 (List.take 18 D))))[1]? && (intV (List.take 16 (List.drop 1 (List.take 17 (List.take 18 (List.take 18 (List.drop (0 + i.toNat * 18) C))))))[2]? == intV (List.take 16 (List.drop 1 (List.take 17 (List.take 18 D))))[2]? && (intV (List.take 16 (List.drop 1 (List.take 17 (List.take 18 (List.take 18 (List.drop (0 + i.toNat * 18) C))))))[3]? == intV (List.take 16 (List.drop 1 (List.take 17 (List.take 18 D))))[3]? && (intV (List.take 16 (List.drop 1 (List.take 17 (List.take 18 (List.take 18 (List.drop (0 + i.toNat * 18) C))))))[4]? == intV (List.take 16 (List.drop 1 (List.take 17 (List.take 18 D))))[4]? && (intV (List.take 16 (List.drop 1 (List.take 17 (List.take 18 (List.take 18 (List.drop (0 + i.toNat * 18) C))))))[5]? == intV (List.take 16 (List.drop 1 (List.take 17 (List.take 18 D))))[5]? && (intV (List.take 16 (List.drop 1 (List.take 17 (List.take 18 (List.take 18 (List.drop (0 + i.toNat * 18) C))))))[6]? == intV (List.take 16 (List.drop 1 (List.take 17 (List.take 18 D))))[6]? && (intV (List.take 16 (List.drop 1 (List.take 17 (List.take 18 (List.take 18 (List.drop (0 + i.toNat * 18) C))))))[7]? == intV (List.take 16 (List.drop 1 (List.take 17 (List.take 18 D))))[7]? && (intV (List.take 16 (List.drop 1 (List.take 17 (List.take 18 (List.take 18 (List.drop (0 + i.toNat * 18) C))))))[8]? == intV (List.take 16 (List.drop 1 (List.take 17 (List.take 18 D))))[8]? && (intV (List.take 16 (List.drop 1 (List.take 17 (List.take 18 (List.take 18 (List.drop (0 + i.toNat * 18) C))))))[9]? == intV (List.take 16 (List.drop 1 (List.take 17 (List.take 18 D))))[9]? && (intV (List.take 16 (List.drop 1 (List.take 17 (List.take 18 (List.take 18 (List.drop (0 + i.toNat * 18) C))))))[10]? == intV (List.take 16 (List.drop 1 (List.take 17 (List.take 18 D))))[10]? && (intV (List.take 16 (List.drop 1 (List.take 17 (List.take 18 (List.take 18 (List.drop (0 + i.toNat * 18) C))))))[11]? == intV (List.take 16 (List.drop 1 (List.take 17 (List.take 18 D))))[11]? && (intV (List.take 16 (List.drop 1 (List.take 17 (List.take 18 (List.take 18 (List.drop (0 + i.toNat * 18) C))))))[12]? == intV (List.take 16 (List.drop 1 (List.take 17 (List.take 18 D))))[12]? && (intV (List.take 16 (List.drop 1 (List.take 17 (List.take 18 (List.take 18 (List.drop (0 + i.toNat * 18) C))))))[13]? == intV (List.take 16 (List.drop 1 (List.take 17 (List.take 18 D))))[13]? && (intV (List.take 16 (List.drop 1 (List.take 17 (List.take 18 (List.take 18 (List.drop (0 + i.toNat * 18) C))))))[14]? == intV (List.take 16 (List.drop 1 (List.take 17 (List.take 18 D))))[14]? && (intV (List.take 16 (List.drop 1 (List.take 17 (List.take 18 (List.take 18 (List.drop (0 + i.toNat * 18) C))))))[15]? == intV (List.take 16 (List.drop 1 (List.take 17 (List.take 18 D))))[15]? && true))))))))))))))) && true) && (intV (List.take 18 (List.take 18 (List.drop (0 + i.toNat * 18) C)))[17]? == intV (List.take 18 D)[17]? && true)) = true then
 some ((AEx.ret, [AV.sl (some (0, 0)) n 0 false, AV.fn (Fn.func 19) [AV.ptr (some (1, 0))], int i64 i, int i64 (n : Int), int i64 i], (hIxdb0 n i C D)))
 else none) else none) else none) else none) else none) else none) else none) else none) else none) else none) else none) else none) else none) else none) else none) else none) else none) else none) else none) else none) else none) else none) else none) else none) else none) else none) else none) else none) else none) else none) else none) else none) else none) else none) else none) else none) else none) else none) else none) else none) else none) else none) else none) else none) else none) else none) := by
  kernel_rfl

noncomputable def hIxds0 (n : Nat) (i : Int) (C D : List AV) : AHeap := [ABlk.cells C 18 Md.far none, ABlk.cells D 18 Md.far none]
theorem nfIxds (n : Nat) (i : Int) (C D : List AV) :
 qround Try.prog [] 100 4 [(9, .bool false)] noT LIxd mIxd (vIxd n 0 i) (hIxd C D) =
 (if decide (i < (n : Int)) = false then
 some ((AEx.exit 0, [AV.sl (some (0, 0)) n 0 false, AV.fn (Fn.func 19) [AV.ptr (some (1, 0))], int i64 0, int i64 (n : Int), int i64 i], (hIxds0 n i C D)))
 else none) := by
  kernel_rfl

noncomputable def hIxdY0 (n : Nat) (r : Int) (C D : List AV) (q : Prop) : AHeap := [ABlk.cells C 18 Md.far none, ABlk.cells D 18 Md.far none]
theorem nfIxdY {R : Type} (n : Nat) (r : Int) (C D : List AV) (q : Prop) (K : AV → AHeap → Option R) :
 qrun Try.prog [] 100 4 [] [(2, fixC q mIxd (vIxd n 0 0) (hIxd C D) .ret (vIxd n r r) (hIxd C D))] 22 [.sl (some (0, 0)) n 0 false, fIxd] (hIxd C D) K =
 (if cdec (q ∧ [AV.sl (some (0, 0)) n 0 false, AV.fn (Fn.func 19) [AV.ptr (some (1, 0))], int i64 0, int i64 (n : Int), int i64 0] = [AV.sl (some (0, 0)) n 0 false, fIxd, int i64 0, int i64 (n : Int), int i64 0] ∧ (hIxdY0 n r C D q) = (hIxdY0 n r C D q)) = true then
 K (int i64 r) ((hIxdY0 n r C D q))
 else none) := by
  kernel_rfl

noncomputable def hIxdX0 (n : Nat) (C D : List AV) (q : Prop) : AHeap := [ABlk.cells C 18 Md.far none, ABlk.cells D 18 Md.far none]
theorem nfIxdX {R : Type} (n : Nat) (C D : List AV) (q : Prop) (K : AV → AHeap → Option R) :
 qrun Try.prog [] 100 4 [] [(2, fixC q mIxd (vIxd n 0 0) (hIxd C D) (.exit 0) (vIxd n 0 n) (hIxd C D))] 22 [.sl (some (0, 0)) n 0 false, fIxd] (hIxd C D) K =
 (if cdec (q ∧ [AV.sl (some (0, 0)) n 0 false, AV.fn (Fn.func 19) [AV.ptr (some (1, 0))], int i64 0, int i64 (n : Int), int i64 0] = [AV.sl (some (0, 0)) n 0 false, fIxd, int i64 0, int i64 (n : Int), int i64 0] ∧ (hIxdX0 n C D q) = (hIxdX0 n C D q)) = true then
 K (int i64 (-1)) ((hIxdX0 n C D q))
 else none) := by
  kernel_rfl


end Go.Proofs.Ytpghomcohejejaa.L
