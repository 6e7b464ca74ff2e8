/- Servers, count, Moved: their rows. -/
import Derived.Test.YtlppbeoiphglcaaDipS
set_option autoImplicit false
set_option maxRecDepth 100000
set_option linter.unusedVariables false
set_option linter.unusedSimpArgs false
namespace Go.Proofs.Ytlppbeoiphglcaa.L
open Go Go.Abs
open Go.IntKind
open Go.Abs.AV (int)
open Go.Abs.ABlk (cells)

noncomputable abbrev MVL := loopIn (bodyOf Try.prog 18) 0
def mMv : List Bool := List.replicate 2 true ++ List.replicate 2 false ++ List.replicate 1 true ++ List.replicate 5 false ++ List.replicate 2 true ++ List.replicate 27 false
def vMv (a b : Nat) (n m i : Int) : List AV := [.sl (some (0, 0)) a 0 false, .sl (some (1, 0)) b 0 false, .int .i64 n, .int .i64 m, .int .i64 i]
def hMv (A B : List AV) : AHeap := [.cells A 18 .far none, .cells B 18 .far none]

noncomputable def hMva0 (A B : List AV) (a b : Nat) (n m i : Int) : AHeap := [ABlk.cells A 18 Md.far none, ABlk.cells B 18 Md.far none]
theorem nfMva (A B : List AV) (a b : Nat) (n m i : Int) :
 qround Try.prog [] 100 4 [(12, .bool true), (34, .bool true)] noT MVL mMv (vMv a b n m i) (hMv A B) =
 (if decide (i < m) = true then
 (if decide (i ≥ (a : Int)) = true then
 some ((AEx.norm, [AV.sl (some (0, 0)) a 0 false, AV.sl (some (1, 0)) b 0 false, int i64 (i64.wrap (n + 1)), int i64 m, int i64 (i64.wrap (i + 1))], (hMva0 A B a b n m i)))
 else (if decide (i ≥ (b : Int)) = true then
 some ((AEx.norm, [AV.sl (some (0, 0)) a 0 false, AV.sl (some (1, 0)) b 0 false, int i64 (i64.wrap (n + 1)), int i64 m, int i64 (i64.wrap (i + 1))], (hMva0 A B a b n m i)))
 else (if 0 ≤ i ∧ i < (a : Int) then
 (if 0 + i.toNat * 18 + 18 ≤ A.length then
 (if 0 ≤ i ∧ i < (b : Int) then
 (if 0 + i.toNat * 18 + 18 ≤ B.length then
 (if 17 ≤ (List.take 18 (List.drop (0 + i.toNat * 18) A)).length then
 (if 17 ≤ (List.take 18 (List.drop (0 + i.toNat * 18) B)).length then
 (if isBoolV (List.take 17 (List.take 18 (List.drop (0 + i.toNat * 18) A)))[0]? = true then
 (if isBoolV (List.take 17 (List.take 18 (List.drop (0 + i.toNat * 18) B)))[0]? = true then
 (if 17 ≤ (List.take 17 (List.take 18 (List.drop (0 + i.toNat * 18) A))).length then
 (if 17 ≤ (List.take 17 (List.take 18 (List.drop (0 + i.toNat * 18) B))).length then
 (if isIntV u8 (List.take 16 (List.drop 1 (List.take 17 (List.take 18 (List.drop (0 + i.toNat * 18) A)))))[0]? = true then
 (if isIntV u8 (List.take 16 (List.drop 1 (List.take 17 (List.take 18 (List.drop (0 + i.toNat * 18) B)))))[0]? = true then
 (if isIntV u8 (List.take 16 (List.drop 1 (List.take 17 (List.take 18 (List.drop (0 + i.toNat * 18) A)))))[1]? = true then
 (if isIntV u8 (List.take 16 (List.drop 1 (List.take 17 (List.take 18 (List.drop (0 + i.toNat * 18) B)))))[1]? = true then
 (if isIntV u8 (List.take 16 (List.drop 1 (List.take 17 (List.take 18 (List.drop (0 + i.toNat * 18) A)))))[2]? = true then
 (if isIntV u8 (List.take 16 (List.drop 1 (List.take 17 (List.take 18 (List.drop (0 + i.toNat * 18) B)))))[2]? = true then
 (if isIntV u8 (List.take 16 (List.drop 1 (List.take 17 (List.take 18 (List.drop (0 + i.toNat * 18) A)))))[3]? = true then
 (if isIntV u8 (List.take 16 (List.drop 1 (List.take 17 (List.take 18 (List.drop (0 + i.toNat * 18) B)))))[3]? = true then
 (if isIntV u8 (List.take 16 (List.drop 1 (List.take 17 (List.take 18 (List.drop (0 + i.toNat * 18) A)))))[4]? = true then
 (if isIntV u8 (List.take 16 (List.drop 1 (List.take 17 (List.take 18 (List.drop (0 + i.toNat * 18) B)))))[4]? = true then
 (if isIntV u8 (List.take 16 (List.drop 1 (List.take 17 (List.take 18 (List.drop (0 + i.toNat * 18) A)))))[5]? = true then
 (if isIntV u8 (List.take 16 (List.drop 1 (List.take 17 (List.take 18 (List.drop (0 + i.toNat * 18) B)))))[5]? = true then
 (if isIntV u8 (List.take 16 (List.drop 1 (List.take 17 (List.take 18 (List.drop (0 + i.toNat * 18) A)))))[6]? = true then
 (if isIntV u8 (List.take 16 (List.drop 1 (List.take 17 (List.take 18 (List.drop (0 + i.toNat * 18) B)))))[6]? = true then
 (if isIntV u8 (List.take 16 (List.drop 1 (List.take 17 (List.take 18 (List.drop (0 + i.toNat * 18) A)))))[7]? = true then
 (if isIntV u8 (List.take 16 (List.drop 1 (List.take 17 (List.take 18 (List.drop (0 + i.toNat * 18) B)))))[7]? = true then
 (if isIntV u8 (List.take 16 (List.drop 1 (List.take 17 (List.take 18 (List.drop (0 + i.toNat * 18) A)))))[8]? = true then
 (if isIntV u8 (List.take 16 (List.drop 1 (List.take 17 (List.take 18 (List.drop (0 + i.toNat * 18) B)))))[8]? = true then
 (if isIntV u8 (List.take 16 (List.drop 1 (List.take 17 (List.take 18 (List.drop (0 + i.toNat * 18) A)))))[9]? = true then
 (if isIntV u8 (List.take 16 (List.drop 1 (List.take 17 (List.take 18 (List.drop (0 + i.toNat * 18) B)))))[9]? = true then
 (if isIntV u8 (List.take 16 (List.drop 1 (List.take 17 (List.take 18 (List.drop (0 + i.toNat * 18) A)))))[10]? = true then
 (if isIntV u8 (List.take 16 (List.drop 1 (List.take 17 (List.take 18 (List.drop (0 + i.toNat * 18) B)))))[10]? = true then
 (if isIntV u8 (List.take 16 (List.drop 1 (List.take 17 (List.take 18 (List.drop (0 + i.toNat * 18) A)))))[11]? = true then
 (if isIntV u8 (List.take 16 (List.drop 1 (List.take 17 (List.take 18 (List.drop (0 + i.toNat * 18) B)))))[11]? = true then
 (if isIntV u8 (List.take 16 (List.drop 1 (List.take 17 (List.take 18 (List.drop (0 + i.toNat * 18) A)))))[12]? = true then
 (if isIntV u8 (List.take 16 (List.drop 1 (List.take 17 (List.take 18 (List.drop (0 + i.toNat * 18) B)))))[12]? = true then
 (if isIntV u8 (List.take 16 (List.drop 1 (List.take 17 (List.take 18 (List.drop (0 + i.toNat * 18) A)))))[13]? = true then
 (if isIntV u8 (List.take 16 (List.drop 1 (List.take 17 (List.take 18 (List.drop (0 + i.toNat * 18) B)))))[13]? = true then
 (if isIntV u8 (List.take 16 (List.drop 1 (List.take 17 (List.take 18 (List.drop (0 + i.toNat * 18) A)))))[14]? = true then
 (if isIntV u8 (List.take 16 (List.drop 1 (List.take 17 (List.take 18 (List.drop (0 + i.toNat * 18) B)))))[14]? = true then
 (if isIntV u8 (List.take 16 (List.drop 1 (List.take 17 (List.take 18 (List.drop (0 + i.toNat * 18) A)))))[15]? = true then
 (if isIntV u8 (List.take 16 (List.drop 1 (List.take 17 (List.take 18 (List.drop (0 + i.toNat * 18) B)))))[15]? = true then
 (if isIntV u16 (List.take 18 (List.drop (0 + i.toNat * 18) A))[17]? = true then
 (if isIntV u16 (List.take 18 (List.drop (0 + i.toNat * 18) B))[17]? = true then
 (if (!(boolV (List.take 17 (List.take 18 (List.drop (0 + i.toNat * 18) A)))[0]? == boolV (List.take 17 (List.take 18 (List.drop (0 + i.toNat * 18) B)))[0]? && (intV (List.take 16 (List.drop 1 (List.take 17 (List.take 18 (List.drop (0 + i.toNat * 18) A)))))[0]? == intV (List.take 16 (List.drop 1 (List.take 17 (List.take 18 (List.drop (0 + i.toNat * 18) B)))))[0]? && (intV (List.take 16 (List.drop 1 (List.take 17 (List.take 18 (List.drop (0 + i.toNat * 18) A)))))[1]? == intV (List.take 16 (List.drop 1 (List.take 17 (List.take 18 (List.drop (0 + i.toNat * 18) B)))))[1]? && (intV (List.take 16 (List.drop 1 (List.take 17 (List.take 18 (List.drop (0 + i.toNat * 18) A)))))[2]? == intV (List.take 16 (List.drop 1 (List.take 17 (List.take 18 (List.drop (0 + i.toNat * 18) B)))))[2]? && (intV (List.take 16 (List.drop 1 (List.take 17 (List.take 18 (List.drop (0 + i.toNat * 18) A)))))[3]? == intV (List.take 16 (List.drop 1 (List.take 17 (List.take 18 (List.drop (0 + i.toNat * 18) B)))))[3]? && (intV (List.take 16 (List.drop 1 (List.take 17 (List.take 18 (List.drop (0 + i.toNat * 18) A)))))[4]? == intV (List.take 16 (List.drop 1 (List.take 17 (List.take 18 (List.drop (0 + i.toNat * 18) B)))))[4]? && (intV (List.take 16 (List.drop 1 (List.take 17 (List.take 18 (List.drop (0 + i.toNat * 18) A)))))[5]? == intV (List.take 16 (List.drop 1 (List.take 17 (List.take 18 (List.drop (0 + i.toNat * 18) B)))))[5]? && (intV (List.take 16 (List.drop 1 (List.take 17 (List.take 18 (List.drop (0 + i.toNat * 18) A)))))[6]? == intV (List.take 16 (List.drop 1 (List.take 17 (List.take 18 (List.drop (0 + i.toNat * 18) B)))))[6]? && (intV (List.take 16 (List.drop 1 (List.take 17 (List.take 18 (List.drop (0 + i.toNat * 18) A)))))[7]? == intV (List.take 16 (List.drop 1 (List.take 17 (List.take 18 (List.drop (0 + i.toNat * 18) B)))))[7]? && (intV (List.take 16 (List.drop 1 (List.take 17 (List.take 18 (List.drop (0 + i.toNat * 18) A)))))[8]? == intV (List.take 16 (List.drop 1 (List.take 17 (List.take 18 (List.drop (0 + i.toNat * 18) B)))))[8]? && (intV (List.take 16 (List.drop 1 (List.take 17 (List.take 18 (List.drop (0 + i.toNat * 18) A)))))[9]? == intV (List.take 16 (List.drop 1 (List.take 17 (List.take 18 (List.drop (0 + i.toNat * 18) B)))))[9]? && (intV (List.take 16 (List.drop 1 (List.take 17 (List.take 18 (List.drop (0 + i.toNat * 18) A)))))[10]? == intV (List.take 16 (List.drop 1 (List.take 17 (List.take 18 (List.drop (0 + i.toNat * 18) B)))))[10]? && (intV (List.take 16 (List.drop 1 (List.take 17 (List.take 18 (List.drop (0 + i.toNat * 18) A)))))[11]? == intV (List.take 16 (List.drop 1 (List.take 17 (List.take 18 (List.drop (0 + i.toNat * 18) B)))))[11]? && (intV (List.take 16 (List.drop 1 (List.take 17 (List.take 18 (List.drop (0 + i.toNat * 18) A)))))[12]? == intV (List.take 16 (List.drop 1 (List.take 17 (List.take 18 (List.drop (0 + i.toNat * 18) B)))))[12]? && (intV (List.take 16 (List.drop 1 (List.take 17 (List.take 18 (List.drop (0 + i.toNat * 18) A)))))[13]? == intV (List.take 16 (List.drop 1 (List.take 17 (List.take 18 (List.drop (0 + i.toNat * 18) B)))))[13]? && (intV (List.take 16 (List.drop 1 (List.take 17 (List.take 18 (List.drop (0 + i.toNat * 18) A)))))[14]? == intV (List.take 16 (List.drop 1 (List.take 17 (List.take 18 (List.drop (0 + i.toNat * 18) B)))))[14]? && (intV (List.take 16 (List.drop 1 (List.take 17 (List.take 18 (List.drop (0 + i.toNat * 18) A)))))[15]? == intV (List.take 16 (List.drop 1 (List.take 17 (List.take 18 (List.drop (0 + i.toNat * 18) B)))))[15]? && true))))))))))))))) && true) && (intV (List.take 18 (List.drop (0 + i.toNat * 18) A))[17]? == intV (List.take 18 (List.drop (0 + i.toNat * 18) B))[17]? && true))) = true then
 some ((AEx.norm, [AV.sl (some (0, 0)) a 0 false, AV.sl (some (1, 0)) b 0 false, int i64 (i64.wrap (n + 1)), int i64 m, int i64 (i64.wrap (i + 1))], (hMva0 A B a b n m i)))
 else none) else none) else none) else none) else none) else none) else none) else none) else none) else none) else none) else none) else none) else none) else none) else none) else none) else none) else none) else none) else none) else none) else none) else none) else none) else none) else none) else none) else none) else none) else none) else none) else none) else none) else none) else none) else none) else none) else none) else none) else none) else none) else none) else none) else none)))
 else none) := by
  kernel_rfl

noncomputable def hMvb0 (A B : List AV) (a b : Nat) (n m i : Int) : AHeap := [ABlk.cells A 18 Md.far none, ABlk.cells B 18 Md.far none]
theorem nfMvb (A B : List AV) (a b : Nat) (n m i : Int) :
 qround Try.prog [] 100 4 [(12, .bool true), (34, .bool false)] noT MVL mMv (vMv a b n m i) (hMv A B) =
 (if decide (i < m) = true then
 (if decide (i ≥ (a : Int)) = true then
 none
 else (if decide (i ≥ (b : Int)) = true then
 none
 else (if 0 ≤ i ∧ i < (a : Int) then
 (if 0 + i.toNat * 18 + 18 ≤ A.length then
 (if 0 ≤ i ∧ i < (b : Int) then
 (if 0 + i.toNat * 18 + 18 ≤ B.length then
 (if 17 ≤ (List.take 18 (List.drop (0 + i.toNat * 18) A)).length then
 (if 17 ≤ (List.take 18 (List.drop (0 + i.toNat * 18) B)).length then
 (if isBoolV (List.take 17 (List.take 18 (List.drop (0 + i.toNat * 18) A)))[0]? = true then
 (if isBoolV (List.take 17 (List.take 18 (List.drop (0 + i.toNat * 18) B)))[0]? = true then
 (if 17 ≤ (List.take 17 (List.take 18 (List.drop (0 + i.toNat * 18) A))).length then
 (if 17 ≤ (List.take 17 (List.take 18 (List.drop (0 + i.toNat * 18) B))).length then
 (if isIntV u8 (List.take 16 (List.drop 1 (List.take 17 (List.take 18 (List.drop (0 + i.toNat * 18) A)))))[0]? = true then
 (if isIntV u8 (List.take 16 (List.drop 1 (List.take 17 (List.take 18 (List.drop (0 + i.toNat * 18) B)))))[0]? = true then
 (if isIntV u8 (List.take 16 (List.drop 1 (List.take 17 (List.take 18 (List.drop (0 + i.toNat * 18) A)))))[1]? = true then
 (if isIntV u8 (List.take 16 (List.drop 1 (List.take 17 (List.take 18 (List.drop (0 + i.toNat * 18) B)))))[1]? = true then
 (if isIntV u8 (List.take 16 (List.drop 1 (List.take 17 (List.take 18 (List.drop (0 + i.toNat * 18) A)))))[2]? = true then
 (if isIntV u8 (List.take 16 (List.drop 1 (List.take 17 (List.take 18 (List.drop (0 + i.toNat * 18) B)))))[2]? = true then
 (if isIntV u8 (List.take 16 (List.drop 1 (List.take 17 (List.take 18 (List.drop (0 + i.toNat * 18) A)))))[3]? = true then
 (if isIntV u8 (List.take 16 (List.drop 1 (List.take 17 (List.take 18 (List.drop (0 + i.toNat * 18) B)))))[3]? = true then
 (if isIntV u8 (List.take 16 (List.drop 1 (List.take 17 (List.take 18 (List.drop (0 + i.toNat * 18) A)))))[4]? = true then
 (if isIntV u8 (List.take 16 (List.drop 1 (List.take 17 (List.take 18 (List.drop (0 + i.toNat * 18) B)))))[4]? = true then
 (if isIntV u8 (List.take 16 (List.drop 1 (List.take 17 (List.take 18 (List.drop (0 + i.toNat * 18) A)))))[5]? = true then
 (if isIntV u8 (List.take 16 (List.drop 1 (List.take 17 (List.take 18 (List.drop (0 + i.toNat * 18) B)))))[5]? = true then
 (if isIntV u8 (List.take 16 (List.drop 1 (List.take 17 (List.take 18 (List.drop (0 + i.toNat * 18) A)))))[6]? = true then
 (if isIntV u8 (List.take 16 (List.drop 1 (List.take 17 (List.take 18 (List.drop (0 + i.toNat * 18) B)))))[6]? = true then
 (if isIntV u8 (List.take 16 (List.drop 1 (List.take 17 (List.take 18 (List.drop (0 + i.toNat * 18) A)))))[7]? = true then
 (if isIntV u8 (List.take 16 (List.drop 1 (List.take 17 (List.take 18 (List.drop (0 + i.toNat * 18) B)))))[7]? = true then
 (if isIntV u8 (List.take 16 (List.drop 1 (List.take 17 (List.take 18 (List.drop (0 + i.toNat * 18) A)))))[8]? = true then
 (if isIntV u8 (List.take 16 (List.drop 1 (List.take 17 (List.take 18 (List.drop (0 + i.toNat * 18) B)))))[8]? = true then
 (if isIntV u8 (List.take 16 (List.drop 1 (List.take 17 (List.take 18 (List.drop (0 + i.toNat * 18) A)))))[9]? = true then
 (if isIntV u8 (List.take 16 (List.drop 1 (List.take 17 (List.take 18 (List.drop (0 + i.toNat * 18) B)))))[9]? = true then
 (if isIntV u8 (List.take 16 (List.drop 1 (List.take 17 (List.take 18 (List.drop (0 + i.toNat * 18) A)))))[10]? = true then
 (if isIntV u8 (List.take 16 (List.drop 1 (List.take 17 (List.take 18 (List.drop (0 + i.toNat * 18) B)))))[10]? = true then
 (if isIntV u8 (List.take 16 (List.drop 1 (List.take 17 (List.take 18 (List.drop (0 + i.toNat * 18) A)))))[11]? = true then
 (if isIntV u8 (List.take 16 (List.drop 1 (List.take 17 (List.take 18 (List.drop (0 + i.toNat * 18) B)))))[11]? = true then
 (if isIntV u8 (List.take 16 (List.drop 1 (List.take 17 (List.take 18 (List.drop (0 + i.toNat * 18) A)))))[12]? = true then
 (if isIntV u8 (List.take 16 (List.drop 1 (List.take 17 (List.take 18 (List.drop (0 + i.toNat * 18) B)))))[12]? = true then
 (if isIntV u8 (List.take 16 (List.drop 1 (List.take 17 (List.take 18 (List.drop (0 + i.toNat * 18) A)))))[13]? = true then
 (if isIntV u8 (List.take 16 (List.drop 1 (List.take 17 (List.take 18 (List.drop (0 + i.toNat * 18) B)))))[13]? = true then
 (if isIntV u8 (List.take 16 (List.drop 1 (List.take 17 (List.take 18 (List.drop (0 + i.toNat * 18) A)))))[14]? = true then
 (if isIntV u8 (List.take 16 (List.drop 1 (List.take 17 (List.take 18 (List.drop (0 + i.toNat * 18) B)))))[14]? = true then
 (if isIntV u8 (List.take 16 (List.drop 1 (List.take 17 (List.take 18 (List.drop (0 + i.toNat * 18) A)))))[15]? = true then
 (if isIntV u8 (List.take 16 (List.drop 1 (List.take 17 (List.take 18 (List.drop (0 + i.toNat * 18) B)))))[15]? = true then
 (if isIntV u16 (List.take 18 (List.drop (0 + i.toNat * 18) A))[17]? = true then
 (if isIntV u16 (List.take 18 (List.drop (0 + i.toNat * 18) B))[17]? = true then
 (if (!(boolV (List.take 17 (List.take 18 (List.drop (0 + i.toNat * 18) A)))[0]? == boolV (List.take 17 (List.take 18 (List.drop (0 + i.toNat * 18) B)))[0]? && (intV (List.take 16 (List.drop 1 (List.take 17 (List.take 18 (List.drop (0 + i.toNat * 18) A)))))[0]? == intV (List.take 16 (List.drop 1 (List.take 17 (List.take 18 (List.drop (0 + i.toNat * 18) B)))))[0]? && (intV (List.take 16 (List.drop 1 (List.take 17 (List.take 18 (List.drop (0 + i.toNat * 18) A)))))[1]? == intV (List.take 16 (List.drop 1 (List.take 17 (List.take 18 (List.drop (0 + i.toNat * 18) B)))))[1]? && (intV (List.take 16 (List.drop 1 (List.take 17 (List.take 18 (List.drop (0 + i.toNat * 18) A)))))[2]? == intV (List.take 16 (List.drop 1 (List.take 17 (List.take 18 (List.drop (0 + i.toNat * 18) B)))))[2]? && (intV (List.take 16 (List.drop 1 (List.take 17 (List.take 18 (List.drop (0 + i.toNat * 18) A)))))[3]? == intV (List.take 16 (List.drop 1 (List.take 17 (List.take 18 (List.drop (0 + i.toNat * 18) B)))))[3]? && (intV (List.take 16 (List.drop 1 (List.take 17 (List.take 18 (List.drop (0 + i.toNat * 18) A)))))[4]? == intV (List.take 16 (List.drop 1 (List.take 17 (List.take 18 (List.drop (0 + i.toNat * 18) B)))))[4]? && (intV (List.take 16 (List.drop 1 (List.take 17 (List.take 18 (List.drop (0 + i.toNat * 18) A)))))[5]? == intV (List.take 16 (List.drop 1 (List.take 17 (List.take 18 (List.drop (0 + i.toNat * 18) B)))))[5]? && (intV (List.take 16 (List.drop 1 (List.take 17 (List.take 18 (List.drop (0 + i.toNat * 18) A)))))[6]? == intV (List.take 16 (List.drop 1 (List.take 17 (List.take 18 (List.drop (0 + i.toNat * 18) B)))))[6]? && (intV (List.take 16 (List.drop 1 (List.take 17 (List.take 18 (List.drop (0 + i.toNat * 18) A)))))[7]? == intV (List.take 16 (List.drop 1 (List.take 17 (List.take 18 (List.drop (0 + i.toNat * 18) B)))))[7]? && (intV (List.take 16 (List.drop 1 (List.take 17 (List.take 18 (List.drop (0 + i.toNat * 18) A)))))[8]? == intV (List.take 16 (List.drop 1 (List.take 17 (List.take 18 (List.drop (0 + i.toNat * 18) B)))))[8]? && (intV (List.take 16 (List.drop 1 (List.take 17 (List.take 18 (List.drop (0 + i.toNat * 18) A)))))[9]? == intV (List.take 16 (List.drop 1 (List.take 17 (List.take 18 (List.drop (0 + i.toNat * 18) B)))))[9]? && (intV (List.take 16 (List.drop 1 (List.take 17 (List.take 18 (List.drop (0 + i.toNat * 18) A)))))[10]? == intV (List.take 16 (List.drop 1 (List.take 17 (List.take 18 (List.drop (0 + i.toNat * 18) B)))))[10]? && (intV (List.take 16 (List.drop 1 (List.take 17 (List.take 18 (List.drop (0 + i.toNat * 18) A)))))[11]? == intV (List.take 16 (List.drop 1 (List.take 17 (List.take 18 (List.drop (0 + i.toNat * 18) B)))))[11]? && (intV (List.take 16 (List.drop 1 (List.take 17 (List.take 18 (List.drop (0 + i.toNat * 18) A)))))[12]? == intV (List.take 16 (List.drop 1 (List.take 17 (List.take 18 (List.drop (0 + i.toNat * 18) B)))))[12]? && (intV (List.take 16 (List.drop 1 (List.take 17 (List.take 18 (List.drop (0 + i.toNat * 18) A)))))[13]? == intV (List.take 16 (List.drop 1 (List.take 17 (List.take 18 (List.drop (0 + i.toNat * 18) B)))))[13]? && (intV (List.take 16 (List.drop 1 (List.take 17 (List.take 18 (List.drop (0 + i.toNat * 18) A)))))[14]? == intV (List.take 16 (List.drop 1 (List.take 17 (List.take 18 (List.drop (0 + i.toNat * 18) B)))))[14]? && (intV (List.take 16 (List.drop 1 (List.take 17 (List.take 18 (List.drop (0 + i.toNat * 18) A)))))[15]? == intV (List.take 16 (List.drop 1 (List.take 17 (List.take 18 (List.drop (0 + i.toNat * 18) B)))))[15]? && true))))))))))))))) && true) && (intV (List.take 18 (List.drop (0 + i.toNat * 18) A))[17]? == intV (List.take 18 (List.drop (0 + i.toNat * 18) B))[17]? && true))) = false then
 some ((AEx.norm, [AV.sl (some (0, 0)) a 0 false, AV.sl (some (1, 0)) b 0 false, int i64 n, int i64 m, int i64 (i64.wrap (i + 1))], (hMvb0 A B a b n m i)))
 else none) else none) else none) else none) else none) else none) else none) else none) else none) else none) else none) else none) else none) else none) else none) else none) else none) else none) else none) else none) else none) else none) else none) else none) else none) else none) else none) else none) else none) else none) else none) else none) else none) else none) else none) else none) else none) else none) else none) else none) else none) else none) else none) else none) else none)))
 else none) := by
  kernel_rfl

noncomputable def hMvs0 (A B : List AV) (a b : Nat) (n m i : Int) : AHeap := [ABlk.cells A 18 Md.far none, ABlk.cells B 18 Md.far none]
theorem nfMvs (A B : List AV) (a b : Nat) (n m i : Int) :
 qround Try.prog [] 100 4 [(12, .bool false)] noT MVL mMv (vMv a b n m i) (hMv A B) =
 (if decide (i < m) = false then
 some ((AEx.exit 0, [AV.sl (some (0, 0)) a 0 false, AV.sl (some (1, 0)) b 0 false, int i64 n, int i64 m, int i64 i], (hMvs0 A B a b n m i)))
 else none) := by
  kernel_rfl

noncomputable def hMv0 (q : Prop) (A B : List AV) (a b : Nat) (n m i : Int) : AHeap := [ABlk.cells A 18 Md.far none, ABlk.cells B 18 Md.far none]
theorem nfMv {R : Type} (q : Prop) (A B : List AV) (a b : Nat) (n m i : Int) (K : AV → AHeap → Option R) :
 qrun Try.prog [] 100 4 [] [(2, fixC q mMv (vMv a b 0 m 0) (hMv A B) (.exit 0) (vMv a b n m i) (hMv A B))] 18 [.sl (some (0, 0)) a 0 false, .sl (some (1, 0)) b 0 false] (hMv A B) K =
 (if cdec (q ∧ [AV.sl (some (0, 0)) a 0 false, AV.sl (some (1, 0)) b 0 false, int i64 0, int i64 (if true = true then if (b : Int) > (a : Int) then (b : Int) else (a : Int) else if (b : Int) < (a : Int) then (b : Int) else (a : Int)), int i64 0] = [AV.sl (some (0, 0)) a 0 false, AV.sl (some (1, 0)) b 0 false, int i64 0, int i64 m, int i64 0] ∧ (hMv0 q A B a b n m i) = (hMv0 q A B a b n m i)) = true then
 K (int i64 n) ((hMv0 q A B a b n m i))
 else none) := by
  kernel_rfl


end Go.Proofs.Ytlppbeoiphglcaa.L
