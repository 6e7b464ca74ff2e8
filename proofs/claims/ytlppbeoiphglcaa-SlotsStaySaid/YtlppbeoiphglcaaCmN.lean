/- Servers, count, Moved: their rows. -/
import Derived.Test.YtlppbeoiphglcaaDipS
set_option autoImplicit false
set_option maxRecDepth 100000
set_option linter.unusedVariables false
set_option linter.unusedSimpArgs false
namespace Go.Proofs.Ytlppbeoiphglcaa.L
open Go Go.Abs
open Go.IntKind
open Go.Abs.AV (int)
open Go.Abs.ABlk (cells)

noncomputable abbrev CNL := loopIn (bodyOf Try.prog 21) 0
noncomputable abbrev SVL := loopIn (bodyOf Try.prog 20) 0
noncomputable abbrev MVL := loopIn (bodyOf Try.prog 18) 0
noncomputable def tSv : Tbl := [(30, entF eDipO), (22, entF eRound)]
theorem tSvOk : ∀ f E, tSv.find f = some E → SoundE Try.prog f E := find_cons sDipO (find_cons sRound (find_nil _))
def mCn : List Bool := List.replicate 1 true ++ List.replicate 2 false ++ List.replicate 1 true ++ List.replicate 1 false ++ List.replicate 2 true ++ List.replicate 15 false
def mSv : List Bool := List.replicate 2 true ++ List.replicate 3 false ++ List.replicate 2 true ++ List.replicate 24 false
def mMv : List Bool := List.replicate 2 true ++ List.replicate 2 false ++ List.replicate 1 true ++ List.replicate 5 false ++ List.replicate 2 true ++ List.replicate 27 false
def vCn (k : Nat) (n i : Int) : List AV := [.sl (some (0, 0)) k 0 false, .ptr (some (1, 0)), .int .i64 n, .int .i64 i]
def hCn (O D : List AV) : AHeap := [.cells O 18 .far none, .cells D 18 .own none]
def vSv (k q : Nat) (v : Bool) (i : Int) : List AV := [.sl (some (0, 0)) k 0 false, .bool v, .sl (some (1, 0)) q 0 false, .int .i64 i]
def vSvz (k : Nat) (v : Bool) : List AV := [.sl (some (0, 0)) k 0 false, .bool v, .sl none 0 0 true, .int .i64 0]
def hSv (L C : List AV) : AHeap := [.cells L 1 .far none, .cells C 19 .own none]
def vMv (a b : Nat) (n m i : Int) : List AV := [.sl (some (0, 0)) a 0 false, .sl (some (1, 0)) b 0 false, .int .i64 n, .int .i64 m, .int .i64 i]
def hMv (A B : List AV) : AHeap := [.cells A 18 .far none, .cells B 18 .far none]

noncomputable def hCna0 (O D : List AV) (k : Nat) (n i : Int) : AHeap := [ABlk.cells O 18 Md.far none, ABlk.cells D 18 Md.own none]
theorem nfCna (O D : List AV) (k : Nat) (n i : Int) :
 qround Try.prog [] 100 4 [(10, .bool true), (18, .bool true)] noT CNL mCn (vCn k n i) (hCn O D) =
 (if decide (i < (k : Int)) = true then
 (if 0 ≤ i ∧ i < (k : Int) then
 (if 0 + i.toNat * 18 + 18 ≤ O.length then
 (if 18 ≤ D.length then
 (if 17 ≤ (List.take 18 (List.drop (0 + i.toNat * 18) O)).length then
 (if 17 ≤ (List.take 18 D).length then
 (if isBoolV (List.take 17 (List.take 18 (List.drop (0 + i.toNat * 18) O)))[0]? = true then
 (if isBoolV (List.take 17 (List.take 18 D))[0]? = true then
 (if 17 ≤ (List.take 17 (List.take 18 (List.drop (0 + i.toNat * 18) O))).length then
 (if 17 ≤ (List.take 17 (List.take 18 D)).length then
 (if isIntV u8 (List.take 16 (List.drop 1 (List.take 17 (List.take 18 (List.drop (0 + i.toNat * 18) O)))))[0]? = true then
 (if isIntV u8 (List.take 16 (List.drop 1 (List.take 17 (List.take 18 D))))[0]? = true then
 (if isIntV u8 (List.take 16 (List.drop 1 (List.take 17 (List.take 18 (List.drop (0 + i.toNat * 18) O)))))[1]? = true then
 (if isIntV u8 (List.take 16 (List.drop 1 (List.take 17 (List.take 18 D))))[1]? = true then
 (if isIntV u8 (List.take 16 (List.drop 1 (List.take 17 (List.take 18 (List.drop (0 + i.toNat * 18) O)))))[2]? = true then
 (if isIntV u8 (List.take 16 (List.drop 1 (List.take 17 (List.take 18 D))))[2]? = true then
 (if isIntV u8 (List.take 16 (List.drop 1 (List.take 17 (List.take 18 (List.drop (0 + i.toNat * 18) O)))))[3]? = true then
 (if isIntV u8 (List.take 16 (List.drop 1 (List.take 17 (List.take 18 D))))[3]? = true then
 (if isIntV u8 (List.take 16 (List.drop 1 (List.take 17 (List.take 18 (List.drop (0 + i.toNat * 18) O)))))[4]? = true then
 (if isIntV u8 (List.take 16 (List.drop 1 (List.take 17 (List.take 18 D))))[4]? = true then
 (if isIntV u8 (List.take 16 (List.drop 1 (List.take 17 (List.take 18 (List.drop (0 + i.toNat * 18) O)))))[5]? = true then
 (if isIntV u8 (List.take 16 (List.drop 1 (List.take 17 (List.take 18 D))))[5]? = true then
 (if isIntV u8 (List.take 16 (List.drop 1 (List.take 17 (List.take 18 (List.drop (0 + i.toNat * 18) O)))))[6]? = true then
 (if isIntV u8 (List.take 16 (List.drop 1 (List.take 17 (List.take 18 D))))[6]? = true then
 (if isIntV u8 (List.take 16 (List.drop 1 (List.take 17 (List.take 18 (List.drop (0 + i.toNat * 18) O)))))[7]? = true then
 (if isIntV u8 (List.take 16 (List.drop 1 (List.take 17 (List.take 18 D))))[7]? = true then
 (if isIntV u8 (List.take 16 (List.drop 1 (List.take 17 (List.take 18 (List.drop (0 + i.toNat * 18) O)))))[8]? = true then
 (if isIntV u8 (List.take 16 (List.drop 1 (List.take 17 (List.take 18 D))))[8]? = true then
 (if isIntV u8 (List.take 16 (List.drop 1 (List.take 17 (List.take 18 (List.drop (0 + i.toNat * 18) O)))))[9]? = true then
 (if isIntV u8 (List.take 16 (List.drop 1 (List.take 17 (List.take 18 D))))[9]? = true then
 (if isIntV u8 (List.take 16 (List.drop 1 (List.take 17 (List.take 18 (List.drop (0 + i.toNat * 18) O)))))[10]? = true then
 (if isIntV u8 (List.take 16 (List.drop 1 (List.take 17 (List.take 18 D))))[10]? = true then
 (if isIntV u8 (List.take 16 (List.drop 1 (List.take 17 (List.take 18 (List.drop (0 + i.toNat * 18) O)))))[11]? = true then
 (if isIntV u8 (List.take 16 (List.drop 1 (List.take 17 (List.take 18 D))))[11]? = true then
 (if isIntV u8 (List.take 16 (List.drop 1 (List.take 17 (List.take 18 (List.drop (0 + i.toNat * 18) O)))))[12]? = true then
 (if isIntV u8 (List.take 16 (List.drop 1 (List.take 17 (List.take 18 D))))[12]? = true then
 (if isIntV u8 (List.take 16 (List.drop 1 (List.take 17 (List.take 18 (List.drop (0 + i.toNat * 18) O)))))[13]? = true then
 (if isIntV u8 (List.take 16 (List.drop 1 (List.take 17 (List.take 18 D))))[13]? = true then
 (if isIntV u8 (List.take 16 (List.drop 1 (List.take 17 (List.take 18 (List.drop (0 + i.toNat * 18) O)))))[14]? = true then
 (if isIntV u8 (List.take 16 (List.drop 1 (List.take 17 (List.take 18 D))))[14]? = true then
 (if isIntV u8 (List.take 16 (List.drop 1 (List.take 17 (List.take 18 (List.drop (0 + i.toNat * 18) O)))))[15]? = true then
 (if isIntV u8 (List.take 16 (List.drop 1 (List.take 17 (List.take 18 D))))[15]? = true then
 (if isIntV u16 (List.take 18 (List.drop (0 + i.toNat * 18) O))[17]? = true then
 (if isIntV u16 (List.take 18 D)[17]? = true then
 (if (boolV (List.take 17 (List.take 18 (List.drop (0 + i.toNat * 18) O)))[0]? == boolV (List.take 17 (List.take 18 D))[0]? && (intV (List.take 16 (List.drop 1 (List.take 17 (List.take 18 (List.drop (0 + i.toNat * 18) O)))))[0]? == intV (List.take 16 (List.drop 1 (List.take 17 (List.take 18 D))))[0]? && (intV (List.take 16 (List.drop 1 (List.take 17 (List.take 18 (List.drop (0 + i.toNat * 18) O)))))[1]? == intV (List.take 16 (List.drop 1 (List.take 17 (List.take 18 D))))[1]? && (intV (List.take 16 (List.drop 1 (List.take 17 (List.take 18 (List.drop (0 + i.toNat * 18) O)))))[2]? == intV (List.take 16 (List.drop 1 (List.take 17 (List.take 18 D))))[2]? && (intV (List.take 16 (List.drop 1 (List.take 17 (List.take 18 (List.drop (0 + i.toNat * 18) O)))))[3]? == intV (List.take 16 (List.drop 1 (List.take 17 (List.take 18 D))))[3]? && (intV (List.take 16 (List.drop 1 (List.take 17 (List.take 18 (List.drop (0 + i.toNat * 18) O)))))[4]? == intV (List.take 16 (List.drop 1 (List.take 17 (List.take 18 D))))[4]? && (intV (List.take 16 (List.drop 1 (List.take 17 (List.take 18 (List.drop (0 + i.toNat * 18) O)))))[5]? == intV (List.take 16 (List.drop 1 (List.take 17 (List.take 18 D))))[5]? && (intV (List.take 16 (List.drop 1 (List.take 17 (List.take 18 (List.drop (0 + i.toNat * 18) O)))))[6]? == intV (List.take 16 (List.drop 1 (List.take 17 (List.take 18 D))))[6]? && (intV (List.take 16 (List.drop 1 (List.take 17 (List.take 18 (List.drop (0 + i.toNat * 18) O)))))[7]? == intV (List.take 16 (List.drop 1 (List.take 17 (List.take 18 D))))[7]? && (intV (List.take 16 (List.drop 1 (List.take 17 (List.take 18 (List.drop (0 + i.toNat * 18) O)))))[8]? == intV (List.take 16 (List.drop 1 (List.take 17 (List.take 18 D))))[8]? && (intV (List.take 16 (List.drop 1 (List.take 17 (List.take 18 (List.drop (0 + i.toNat * 18) O)))))[9]? == intV (List.take 16 (List.drop 1 (List.take 17 (List.take 18 D))))[9]? && (intV (List.take 16 (List.drop 1 (List.take 17 (List.take 18 (List.drop (0 + i.toNat * 18) O)))))[10]? == intV (List.take 16 (List.drop 1 (List.take 17 (List.take 18 D))))[10]? && (intV (List.take 16 (List.drop 1 (List.take 17 (List.take 18 (List.drop (0 + i.toNat * 18) O)))))[11]? == intV (List.take 16 (List.drop 1 (List.take 17 (List.take 18 D))))[11]? && (intV (List.take 16 (List.drop 1 (List.take 17 (List.take 18 (List.drop (0 + i.toNat * 18) O)))))[12]? == intV (List.take 16 (List.drop 1 (List.take 17 (List.take 18 D))))[12]? && (intV (List.take 16 (List.drop 1 (List.take 17 (List.take 18 (List.drop (0 + i.toNat * 18) O)))))[13]? == intV (List.take 16 (List.drop 1 (List.take 17 (List.take 18 D))))[13]? && (intV (List.take 16 (List.drop 1 (List.take 17 (List.take 18 (List.drop (0 + i.toNat * 18) O)))))[14]? == intV (List.take 16 (List.drop 1 (List.take 17 (List.take 18 D))))[14]? && (intV (List.take 16 (List.drop 1 (List.take 17 (List.take 18 (List.drop (0 + i.toNat * 18) O)))))[15]? == intV (List.take 16 (List.drop 1 (List.take 17 (List.take 18 D))))[15]? && true))))))))))))))) && true) && (intV (List.take 18 (List.drop (0 + i.toNat * 18) O))[17]? == intV (List.take 18 D)[17]? && true)) = true then
 some ((AEx.norm, [AV.sl (some (0, 0)) k 0 false, AV.ptr (some (1, 0)), int i64 (i64.wrap (n + 1)), int i64 (i64.wrap (i + 1))], (hCna0 O D k n i)))
 else none) else none) else none) else none) else none) else none) else none) else none) else none) else none) else none) else none) else none) else none) else none) else none) else none) else none) else none) else none) else none) else none) else none) else none) else none) else none) else none) else none) else none) else none) else none) else none) else none) else none) else none) else none) else none) else none) else none) else none) else none) else none) else none) else none) else none) := by
  kernel_rfl

noncomputable def hCnb0 (O D : List AV) (k : Nat) (n i : Int) : AHeap := [ABlk.cells O 18 Md.far none, ABlk.cells D 18 Md.own none]
theorem nfCnb (O D : List AV) (k : Nat) (n i : Int) :
 qround Try.prog [] 100 4 [(10, .bool true), (18, .bool false)] noT CNL mCn (vCn k n i) (hCn O D) =
 (if decide (i < (k : Int)) = true then
 (if 0 ≤ i ∧ i < (k : Int) then
 (if 0 + i.toNat * 18 + 18 ≤ O.length then
 (if 18 ≤ D.length then
 (if 17 ≤ (List.take 18 (List.drop (0 + i.toNat * 18) O)).length then
 (if 17 ≤ (List.take 18 D).length then
 (if isBoolV (List.take 17 (List.take 18 (List.drop (0 + i.toNat * 18) O)))[0]? = true then
 (if isBoolV (List.take 17 (List.take 18 D))[0]? = true then
 (if 17 ≤ (List.take 17 (List.take 18 (List.drop (0 + i.toNat * 18) O))).length then
 (if 17 ≤ (List.take 17 (List.take 18 D)).length then
 (if isIntV u8 (List.take 16 (List.drop 1 (List.take 17 (List.take 18 (List.drop (0 + i.toNat * 18) O)))))[0]? = true then
 (if isIntV u8 (List.take 16 (List.drop 1 (List.take 17 (List.take 18 D))))[0]? = true then
 (if isIntV u8 (List.take 16 (List.drop 1 (List.take 17 (List.take 18 (List.drop (0 + i.toNat * 18) O)))))[1]? = true then
 (if isIntV u8 (List.take 16 (List.drop 1 (List.take 17 (List.take 18 D))))[1]? = true then
 (if isIntV u8 (List.take 16 (List.drop 1 (List.take 17 (List.take 18 (List.drop (0 + i.toNat * 18) O)))))[2]? = true then
 (if isIntV u8 (List.take 16 (List.drop 1 (List.take 17 (List.take 18 D))))[2]? = true then
 (if isIntV u8 (List.take 16 (List.drop 1 (List.take 17 (List.take 18 (List.drop (0 + i.toNat * 18) O)))))[3]? = true then
 (if isIntV u8 (List.take 16 (List.drop 1 (List.take 17 (List.take 18 D))))[3]? = true then
 (if isIntV u8 (List.take 16 (List.drop 1 (List.take 17 (List.take 18 (List.drop (0 + i.toNat * 18) O)))))[4]? = true then
 (if isIntV u8 (List.take 16 (List.drop 1 (List.take 17 (List.take 18 D))))[4]? = true then
 (if isIntV u8 (List.take 16 (List.drop 1 (List.take 17 (List.take 18 (List.drop (0 + i.toNat * 18) O)))))[5]? = true then
 (if isIntV u8 (List.take 16 (List.drop 1 (List.take 17 (List.take 18 D))))[5]? = true then
 (if isIntV u8 (List.take 16 (List.drop 1 (List.take 17 (List.take 18 (List.drop (0 + i.toNat * 18) O)))))[6]? = true then
 (if isIntV u8 (List.take 16 (List.drop 1 (List.take 17 (List.take 18 D))))[6]? = true then
 (if isIntV u8 (List.take 16 (List.drop 1 (List.take 17 (List.take 18 (List.drop (0 + i.toNat * 18) O)))))[7]? = true then
 (if isIntV u8 (List.take 16 (List.drop 1 (List.take 17 (List.take 18 D))))[7]? = true then
 (if isIntV u8 (List.take 16 (List.drop 1 (List.take 17 (List.take 18 (List.drop (0 + i.toNat * 18) O)))))[8]? = true then
 (if isIntV u8 (List.take 16 (List.drop 1 (List.take 17 (List.take 18 D))))[8]? = true then
 (if isIntV u8 (List.take 16 (List.drop 1 (List.take 17 (List.take 18 (List.drop (0 + i.toNat * 18) O)))))[9]? = true then
 (if isIntV u8 (List.take 16 (List.drop 1 (List.take 17 (List.take 18 D))))[9]? = true then
 (if isIntV u8 (List.take 16 (List.drop 1 (List.take 17 (List.take 18 (List.drop (0 + i.toNat * 18) O)))))[10]? = true then
 (if isIntV u8 (List.take 16 (List.drop 1 (List.take 17 (List.take 18 D))))[10]? = true then
 (if isIntV u8 (List.take 16 (List.drop 1 (List.take 17 (List.take 18 (List.drop (0 + i.toNat * 18) O)))))[11]? = true then
 (if isIntV u8 (List.take 16 (List.drop 1 (List.take 17 (List.take 18 D))))[11]? = true then
 (if isIntV u8 (List.take 16 (List.drop 1 (List.take 17 (List.take 18 (List.drop (0 + i.toNat * 18) O)))))[12]? = true then
 (if isIntV u8 (List.take 16 (List.drop 1 (List.take 17 (List.take 18 D))))[12]? = true then
 (if isIntV u8 (List.take 16 (List.drop 1 (List.take 17 (List.take 18 (List.drop (0 + i.toNat * 18) O)))))[13]? = true then
 (if isIntV u8 (List.take 16 (List.drop 1 (List.take 17 (List.take 18 D))))[13]? = true then
 (if isIntV u8 (List.take 16 (List.drop 1 (List.take 17 (List.take 18 (List.drop (0 + i.toNat * 18) O)))))[14]? = true then
 (if isIntV u8 (List.take 16 (List.drop 1 (List.take 17 (List.take 18 D))))[14]? = true then
 (if isIntV u8 (List.take 16 (List.drop 1 (List.take 17 (List.take 18 (List.drop (0 + i.toNat * 18) O)))))[15]? = true then
 (if isIntV u8 (List.take 16 (List.drop 1 (List.take 17 (List.take 18 D))))[15]? = true then
 (if isIntV u16 (List.take 18 (List.drop (0 + i.toNat * 18) O))[17]? = true then
 (if isIntV u16 (List.take 18 D)[17]? = true then
 (if (boolV (List.take 17 (List.take 18 (List.drop (0 + i.toNat * 18) O)))[0]? == boolV (List.take 17 (List.take 18 D))[0]? && (intV (List.take 16 (List.drop 1 (List.take 17 (List.take 18 (List.drop (0 + i.toNat * 18) O)))))[0]? == intV (List.take 16 (List.drop 1 (List.take 17 (List.take 18 D))))[0]? && (intV (List.take 16 (List.drop 1 (List.take 17 (List.take 18 (List.drop (0 + i.toNat * 18) O)))))[1]? == intV (List.take 16 (List.drop 1 (List.take 17 (List.take 18 D))))[1]? && (intV (List.take 16 (List.drop 1 (List.take 17 (List.take 18 (List.drop (0 + i.toNat * 18) O)))))[2]? == intV (List.take 16 (List.drop 1 (List.take 17 (List.take 18 D))))[2]? && (intV (List.take 16 (List.drop 1 (List.take 17 (List.take 18 (List.drop (0 + i.toNat * 18) O)))))[3]? == intV (List.take 16 (List.drop 1 (List.take 17 (List.take 18 D))))[3]? && (intV (List.take 16 (List.drop 1 (List.take 17 (List.take 18 (List.drop (0 + i.toNat * 18) O)))))[4]? == intV (List.take 16 (List.drop 1 (List.take 17 (List.take 18 D))))[4]? && (intV (List.take 16 (List.drop 1 (List.take 17 (List.take 18 (List.drop (0 + i.toNat * 18) O)))))[5]? == intV (List.take 16 (List.drop 1 (List.take 17 (List.take 18 D))))[5]? && (intV (List.take 16 (List.drop 1 (List.take 17 (List.take 18 (List.drop (0 + i.toNat * 18) O)))))[6]? == intV (List.take 16 (List.drop 1 (List.take 17 (List.take 18 D))))[6]? && (intV (List.take 16 (List.drop 1 (List.take 17 (List.take 18 (List.drop (0 + i.toNat * 18) O)))))[7]? == intV (List.take 16 (List.drop 1 (List.take 17 (List.take 18 D))))[7]? && (intV (List.take 16 (List.drop 1 (List.take 17 (List.take 18 (List.drop (0 + i.toNat * 18) O)))))[8]? == intV (List.take 16 (List.drop 1 (List.take 17 (List.take 18 D))))[8]? && (intV (List.take 16 (List.drop 1 (List.take 17 (List.take 18 (List.drop (0 + i.toNat * 18) O)))))[9]? == intV (List.take 16 (List.drop 1 (List.take 17 (List.take 18 D))))[9]? && (intV (List.take 16 (List.drop 1 (List.take 17 (List.take 18 (List.drop (0 + i.toNat * 18) O)))))[10]? == intV (List.take 16 (List.drop 1 (List.take 17 (List.take 18 D))))[10]? && (intV (List.take 16 (List.drop 1 (List.take 17 (List.take 18 (List.drop (0 + i.toNat * 18) O)))))[11]? == intV (List.take 16 (List.drop 1 (List.take 17 (List.take 18 D))))[11]? && (intV (List.take 16 (List.drop 1 (List.take 17 (List.take 18 (List.drop (0 + i.toNat * 18) O)))))[12]? == intV (List.take 16 (List.drop 1 (List.take 17 (List.take 18 D))))[12]? && (intV (List.take 16 (List.drop 1 (List.take 17 (List.take 18 (List.drop (0 + i.toNat * 18) O)))))[13]? == intV (List.take 16 (List.drop 1 (List.take 17 (List.take 18 D))))[13]? && (intV (List.take 16 (List.drop 1 (List.take 17 (List.take 18 (List.drop (0 + i.toNat * 18) O)))))[14]? == intV (List.take 16 (List.drop 1 (List.take 17 (List.take 18 D))))[14]? && (intV (List.take 16 (List.drop 1 (List.take 17 (List.take 18 (List.drop (0 + i.toNat * 18) O)))))[15]? == intV (List.take 16 (List.drop 1 (List.take 17 (List.take 18 D))))[15]? && true))))))))))))))) && true) && (intV (List.take 18 (List.drop (0 + i.toNat * 18) O))[17]? == intV (List.take 18 D)[17]? && true)) = false then
 some ((AEx.norm, [AV.sl (some (0, 0)) k 0 false, AV.ptr (some (1, 0)), int i64 n, int i64 (i64.wrap (i + 1))], (hCnb0 O D k n i)))
 else none) else none) else none) else none) else none) else none) else none) else none) else none) else none) else none) else none) else none) else none) else none) else none) else none) else none) else none) else none) else none) else none) else none) else none) else none) else none) else none) else none) else none) else none) else none) else none) else none) else none) else none) else none) else none) else none) else none) else none) else none) else none) else none) else none) else none) := by
  kernel_rfl

noncomputable def hCns0 (O D : List AV) (k : Nat) (n i : Int) : AHeap := [ABlk.cells O 18 Md.far none, ABlk.cells D 18 Md.own none]
theorem nfCns (O D : List AV) (k : Nat) (n i : Int) :
 qround Try.prog [] 100 4 [(10, .bool false)] noT CNL mCn (vCn k n i) (hCn O D) =
 (if decide (i < (k : Int)) = false then
 some ((AEx.exit 0, [AV.sl (some (0, 0)) k 0 false, AV.ptr (some (1, 0)), int i64 n, int i64 i], (hCns0 O D k n i)))
 else none) := by
  kernel_rfl

noncomputable def hCn0 (q : Prop) (O D : List AV) (k : Nat) (n : Int) : AHeap := [ABlk.cells O 18 Md.far none, ABlk.cells D 18 Md.own none]
theorem nfCn {R : Type} (q : Prop) (O D : List AV) (k : Nat) (n : Int) (K : AV → AHeap → Option R) :
 qrun Try.prog [] 100 4 [] [(3, fixC q mCn (vCn k 0 0) (hCn O D) (.exit 0) (vCn k n k) (hCn O D))] 21 [.sl (some (0, 0)) k 0 false, .agg D] [.cells O 18 .far none] K =
 (if cdec (q ∧ [AV.sl (some (0, 0)) k 0 false, AV.ptr (some (1, 0)), int i64 0, int i64 0] = [AV.sl (some (0, 0)) k 0 false, AV.ptr (some (1, 0)), int i64 0, int i64 0] ∧ (hCn0 q O D k n) = (hCn0 q O D k n)) = true then
 K (int i64 n) ((hCn0 q O D k n))
 else none) := by
  kernel_rfl

noncomputable def hSva0 (L C : List AV) (k q : Nat) (v : Bool) (i : Int) : AHeap := [ABlk.cells L 1 Md.far none, ABlk.cells C 19 Md.ro none, cells (putCells [AV.bool false, int u8 0, int u8 0, int u8 0, int u8 0, int u8 0, int u8 0, int u8 0, int u8 0, int u8 0, int u8 0, int u8 0, int u8 0, int u8 0, int u8 0, int u8 0, int u8 0, int u16 0, int i64 0] 0 (putCells (putCells [AV.bool false, int u8 0, int u8 0, int u8 0, int u8 0, int u8 0, int u8 0, int u8 0, int u8 0, int u8 0, int u8 0, int u8 0, int u8 0, int u8 0, int u8 0, int u8 0, int u8 0, int u16 0, int i64 0] 0 (opq cellsN v i)) 18 [int i64 (i64.wrap (1 + intV L[0 + i.toNat * 1]? % 16))])) 19 Md.own none, cells (List.take (q * 19) C ++ List.take 19 (putCells [AV.bool false, int u8 0, int u8 0, int u8 0, int u8 0, int u8 0, int u8 0, int u8 0, int u8 0, int u8 0, int u8 0, int u8 0, int u8 0, int u8 0, int u8 0, int u8 0, int u8 0, int u16 0, int i64 0] 0 (putCells (putCells [AV.bool false, int u8 0, int u8 0, int u8 0, int u8 0, int u8 0, int u8 0, int u8 0, int u8 0, int u8 0, int u8 0, int u8 0, int u8 0, int u8 0, int u8 0, int u8 0, int u8 0, int u16 0, int i64 0] 0 (opq cellsN v i)) 18 [int i64 (i64.wrap (1 + intV L[0 + i.toNat * 1]? % 16))]))) 19 Md.own (some 1)]
theorem nfSva (L C : List AV) (k q : Nat) (v : Bool) (i : Int) :
 qround Try.prog tSv 100 4 [(14, .bool true)] noT SVL mSv (vSv k q v i) (hSv L C) =
 (if decide (i < (k : Int)) = true then
 (if decide (i < 32) = true then
 (if 0 ≤ i ∧ i < (k : Int) then
 (if isIntV i64 L[0 + i.toNat * 1]? = true then
 (if (opq cellsN v i).length = 18 ∧ 18 ≤ 19 then
 (if [int i64 (i64.wrap (1 + intV L[0 + i.toNat * 1]? % 16))].length = 1 ∧ 19 ≤ (putCells [AV.bool false, int u8 0, int u8 0, int u8 0, int u8 0, int u8 0, int u8 0, int u8 0, int u8 0, int u8 0, int u8 0, int u8 0, int u8 0, int u8 0, int u8 0, int u8 0, int u8 0, int u16 0, int i64 0] 0 (opq cellsN v i)).length then
 (if (putCells (putCells [AV.bool false, int u8 0, int u8 0, int u8 0, int u8 0, int u8 0, int u8 0, int u8 0, int u8 0, int u8 0, int u8 0, int u8 0, int u8 0, int u8 0, int u8 0, int u8 0, int u8 0, int u16 0, int i64 0] 0 (opq cellsN v i)) 18 [int i64 (i64.wrap (1 + intV L[0 + i.toNat * 1]? % 16))]).length = 19 ∧ 19 ≤ 19 then
 (if 19 ≤ (putCells [AV.bool false, int u8 0, int u8 0, int u8 0, int u8 0, int u8 0, int u8 0, int u8 0, int u8 0, int u8 0, int u8 0, int u8 0, int u8 0, int u8 0, int u8 0, int u8 0, int u8 0, int u16 0, int i64 0] 0 (putCells (putCells [AV.bool false, int u8 0, int u8 0, int u8 0, int u8 0, int u8 0, int u8 0, int u8 0, int u8 0, int u8 0, int u8 0, int u8 0, int u8 0, int u8 0, int u8 0, int u8 0, int u8 0, int u16 0, int i64 0] 0 (opq cellsN v i)) 18 [int i64 (i64.wrap (1 + intV L[0 + i.toNat * 1]? % 16))])).length then
 (if (2 * (q + 1) + 200) * 32 ≤ 281474976710656 ∧ some 19 = some 19 ∧ q + 1 ≤ 70368744177664 then
 (if 0 + q * 19 ≤ C.length then
 (if 0 = 0 ∧ 0 + q * 19 = C.length ∧ (0 < 1 ∨ 0 = 0) ∧ 19 = 19 ∧ (List.take 19 (putCells [AV.bool false, int u8 0, int u8 0, int u8 0, int u8 0, int u8 0, int u8 0, int u8 0, int u8 0, int u8 0, int u8 0, int u8 0, int u8 0, int u8 0, int u8 0, int u8 0, int u8 0, int u16 0, int i64 0] 0 (putCells (putCells [AV.bool false, int u8 0, int u8 0, int u8 0, int u8 0, int u8 0, int u8 0, int u8 0, int u8 0, int u8 0, int u8 0, int u8 0, int u8 0, int u8 0, int u8 0, int u8 0, int u8 0, int u16 0, int i64 0] 0 (opq cellsN v i)) 18 [int i64 (i64.wrap (1 + intV L[0 + i.toNat * 1]? % 16))]))).all AV.isCell = true then
 (if isIntV i64 L[0 + i.toNat * 1]? = true then
 (if (int i64 (intV L[0 + i.toNat * 1]?)).beq (int i64 (intV L[0 + i.toNat * 1]?)) = true then
 some ((AEx.norm, [AV.sl (some (0, 0)) k 0 false, AV.bool v, AV.sl (some (3, 0)) (q + 1) 0 false, int i64 (i64.wrap (i + 1))], (hSva0 L C k q v i)))
 else none) else none) else none) else none) else none) else none) else none) else none) else none) else none) else none) else none) else none) := by
  kernel_rfl

noncomputable def hSvs0 (L C : List AV) (k q : Nat) (v : Bool) (i : Int) : AHeap := [ABlk.cells L 1 Md.far none, ABlk.cells C 19 Md.own none]
theorem nfSvs (L C : List AV) (k q : Nat) (v : Bool) (i : Int) :
 qround Try.prog tSv 100 4 [(14, .bool false)] noT SVL mSv (vSv k q v i) (hSv L C) =
 (if decide (i < (k : Int)) = true then
 (if decide (i < 32) = false then
 some ((AEx.exit 0, [AV.sl (some (0, 0)) k 0 false, AV.bool v, AV.sl (some (1, 0)) q 0 false, int i64 i], (hSvs0 L C k q v i)))
 else none)
 else some ((AEx.exit 0, [AV.sl (some (0, 0)) k 0 false, AV.bool v, AV.sl (some (1, 0)) q 0 false, int i64 i], (hSvs0 L C k q v i)))) := by
  kernel_rfl

noncomputable def hSv0 (p : Prop) (L C : List AV) (k q : Nat) (v : Bool) (i : Int) : AHeap := [ABlk.cells L 1 Md.far none]
noncomputable def hSv1 (p : Prop) (L C : List AV) (k q : Nat) (v : Bool) (i : Int) : AHeap := [ABlk.cells L 1 Md.far none, ABlk.cells C 19 Md.own none]
theorem nfSv {R : Type} (p : Prop) (L C : List AV) (k q : Nat) (v : Bool) (i : Int) (K : AV → AHeap → Option R) :
 qrun Try.prog tSv 100 4 [] [(3, fixC p mSv (vSvz k v) [.cells L 1 .far none] (.exit 0) (vSv k q v i) (hSv L C))] 20 [.sl (some (0, 0)) k 0 false, .bool v] [.cells L 1 .far none] K =
 (if cdec (p ∧ [AV.sl (some (0, 0)) k 0 false, AV.bool v, AV.sl none 0 0 true, int i64 0] = [AV.sl (some (0, 0)) k 0 false, AV.bool v, AV.sl none 0 0 true, int i64 0] ∧ (hSv0 p L C k q v i) = (hSv0 p L C k q v i)) = true then
 K (AV.sl (some (1, 0)) q 0 false) ((hSv1 p L C k q v i))
 else none) := by
  kernel_rfl

noncomputable def hMva0 (A B : List AV) (a b : Nat) (n m i : Int) : AHeap := [ABlk.cells A 18 Md.far none, ABlk.cells B 18 Md.far none]
theorem nfMva (A B : List AV) (a b : Nat) (n m i : Int) :
 qround Try.prog [] 100 4 [(12, .bool true), (34, .bool true)] noT MVL mMv (vMv a b n m i) (hMv A B) =
 (if decide (i < m) = true then
 (if decide (i ≥ (a : Int)) = true then
 some ((AEx.norm, [AV.sl (some (0, 0)) a 0 false, AV.sl (some (1, 0)) b 0 false, int i64 (i64.wrap (n + 1)), int i64 m, int i64 (i64.wrap (i + 1))], (hMva0 A B a b n m i)))
 else (if decide (i ≥ (b : Int)) = true then
 some ((AEx.norm, [AV.sl (some (0, 0)) a 0 false, AV.sl (some (1, 0)) b 0 false, int i64 (i64.wrap (n + 1)), int i64 m, int i64 (i64.wrap (i + 1))], (hMva0 A B a b n m i)))
 else (if 0 ≤ i ∧ i < (a : Int) then
 (if 0 + i.toNat * 18 + 18 ≤ A.length then
 (if 0 ≤ i ∧ i < (b : Int) then
 (if 0 + i.toNat * 18 + 18 ≤ B.length then
 (if 17 ≤ (List.take 18 (List.drop (0 + i.toNat * 18) A)).length then
 (if 17 ≤ (List.take 18 (List.drop (0 + i.toNat * 18) B)).length then
 (if isBoolV (List.take 17 (List.take 18 (List.drop (0 + i.toNat * 18) A)))[0]? = true then
 (if isBoolV (List.take 17 (List.take 18 (List.drop (0 + i.toNat * 18) B)))[0]? = true then
 (if 17 ≤ (List.take 17 (List.take 18 (List.drop (0 + i.toNat * 18) A))).length then
 (if 17 ≤ (List.take 17 (List.take 18 (List.drop (0 + i.toNat * 18) B))).length then
 (if isIntV u8 (List.take 16 (List.drop 1 (List.take 17 (List.take 18 (List.drop (0 + i.toNat * 18) A)))))[0]? = true then
 (if isIntV u8 (List.take 16 (List.drop 1 (List.take 17 (List.take 18 (List.drop (0 + i.toNat * 18) B)))))[0]? = true then
 (if isIntV u8 (List.take 16 (List.drop 1 (List.take 17 (List.take 18 (List.drop (0 + i.toNat * 18) A)))))[1]? = true then
 (if isIntV u8 (List.take 16 (List.drop 1 (List.take 17 (List.take 18 (List.drop (0 + i.toNat * 18) B)))))[1]? = true then
 (if isIntV u8 (List.take 16 (List.drop 1 (List.take 17 (List.take 18 (List.drop (0 + i.toNat * 18) A)))))[2]? = true then
 (if isIntV u8 (List.take 16 (List.drop 1 (List.take 17 (List.take 18 (List.drop (0 + i.toNat * 18) B)))))[2]? = true then
 (if isIntV u8 (List.take 16 (List.drop 1 (List.take 17 (List.take 18 (List.drop (0 + i.toNat * 18) A)))))[3]? = true then
 (if isIntV u8 (List.take 16 (List.drop 1 (List.take 17 (List.take 18 (List.drop (0 + i.toNat * 18) B)))))[3]? = true then
 (if isIntV u8 (List.take 16 (List.drop 1 (List.take 17 (List.take 18 (List.drop (0 + i.toNat * 18) A)))))[4]? = true then
 (if isIntV u8 (List.take 16 (List.drop 1 (List.take 17 (List.take 18 (List.drop (0 + i.toNat * 18) B)))))[4]? = true then
 (if isIntV u8 (List.take 16 (List.drop 1 (List.take 17 (List.take 18 (List.drop (0 + i.toNat * 18) A)))))[5]? = true then
 (if isIntV u8 (List.take 16 (List.drop 1 (List.take 17 (List.take 18 (List.drop (0 + i.toNat * 18) B)))))[5]? = true then
 (if isIntV u8 (List.take 16 (List.drop 1 (List.take 17 (List.take 18 (List.drop (0 + i.toNat * 18) A)))))[6]? = true then
 (if isIntV u8 (List.take 16 (List.drop 1 (List.take 17 (List.take 18 (List.drop (0 + i.toNat * 18) B)))))[6]? = true then
 (if isIntV u8 (List.take 16 (List.drop 1 (List.take 17 (List.take 18 (List.drop (0 + i.toNat * 18) A)))))[7]? = true then
 (if isIntV u8 (List.take 16 (List.drop 1 (List.take 17 (List.take 18 (List.drop (0 + i.toNat * 18) B)))))[7]? = true then
 (if isIntV u8 (List.take 16 (List.drop 1 (List.take 17 (List.take 18 (List.drop (0 + i.toNat * 18) A)))))[8]? = true then
 (if isIntV u8 (List.take 16 (List.drop 1 (List.take 17 (List.take 18 (List.drop (0 + i.toNat * 18) B)))))[8]? = true then
 (if isIntV u8 (List.take 16 (List.drop 1 (List.take 17 (List.take 18 (List.drop (0 + i.toNat * 18) A)))))[9]? = true then
 (if isIntV u8 (List.take 16 (List.drop 1 (List.take 17 (List.take 18 (List.drop (0 + i.toNat * 18) B)))))[9]? = true then
 (if isIntV u8 (List.take 16 (List.drop 1 (List.take 17 (List.take 18 (List.drop (0 + i.toNat * 18) A)))))[10]? = true then
 (if isIntV u8 (List.take 16 (List.drop 1 (List.take 17 (List.take 18 (List.drop (0 + i.toNat * 18) B)))))[10]? = true then
 (if isIntV u8 (List.take 16 (List.drop 1 (List.take 17 (List.take 18 (List.drop (0 + i.toNat * 18) A)))))[11]? = true then
 (if isIntV u8 (List.take 16 (List.drop 1 (List.take 17 (List.take 18 (List.drop (0 + i.toNat * 18) B)))))[11]? = true then
 (if isIntV u8 (List.take 16 (List.drop 1 (List.take 17 (List.take 18 (List.drop (0 + i.toNat * 18) A)))))[12]? = true then
 (if isIntV u8 (List.take 16 (List.drop 1 (List.take 17 (List.take 18 (List.drop (0 + i.toNat * 18) B)))))[12]? = true then
 (if isIntV u8 (List.take 16 (List.drop 1 (List.take 17 (List.take 18 (List.drop (0 + i.toNat * 18) A)))))[13]? = true then
 (if isIntV u8 (List.take 16 (List.drop 1 (List.take 17 (List.take 18 (List.drop (0 + i.toNat * 18) B)))))[13]? = true then
 (if isIntV u8 (List.take 16 (List.drop 1 (List.take 17 (List.take 18 (List.drop (0 + i.toNat * 18) A)))))[14]? = true then
 (if isIntV u8 (List.take 16 (List.drop 1 (List.take 17 (List.take 18 (List.drop (0 + i.toNat * 18) B)))))[14]? = true then
 (if isIntV u8 (List.take 16 (List.drop 1 (List.take 17 (List.take 18 (List.drop (0 + i.toNat * 18) A)))))[15]? = true then
 (if isIntV u8 (List.take 16 (List.drop 1 (List.take 17 (List.take 18 (List.drop (0 + i.toNat * 18) B)))))[15]? = true then
 (if isIntV u16 (List.take 18 (List.drop (0 + i.toNat * 18) A))[17]? = true then
 (if isIntV u16 (List.take 18 (List.drop (0 + i.toNat * 18) B))[17]? = true then
 (if (!(boolV (List.take 17 (List.take 18 (List.drop (0 + i.toNat * 18) A)))[0]? == boolV (List.take 17 (List.take 18 (List.drop (0 + i.toNat * 18) B)))[0]? && (intV (List.take 16 (List.drop 1 (List.take 17 (List.take 18 (List.drop (0 + i.toNat * 18) A)))))[0]? == intV (List.take 16 (List.drop 1 (List.take 17 (List.take 18 (List.drop (0 + i.toNat * 18) B)))))[0]? && (intV (List.take 16 (List.drop 1 (List.take 17 (List.take 18 (List.drop (0 + i.toNat * 18) A)))))[1]? == intV (List.take 16 (List.drop 1 (List.take 17 (List.take 18 (List.drop (0 + i.toNat * 18) B)))))[1]? && (intV (List.take 16 (List.drop 1 (List.take 17 (List.take 18 (List.drop (0 + i.toNat * 18) A)))))[2]? == intV (List.take 16 (List.drop 1 (List.take 17 (List.take 18 (List.drop (0 + i.toNat * 18) B)))))[2]? && (intV (List.take 16 (List.drop 1 (List.take 17 (List.take 18 (List.drop (0 + i.toNat * 18) A)))))[3]? == intV (List.take 16 (List.drop 1 (List.take 17 (List.take 18 (List.drop (0 + i.toNat * 18) B)))))[3]? && (intV (List.take 16 (List.drop 1 (List.take 17 (List.take 18 (List.drop (0 + i.toNat * 18) A)))))[4]? == intV (List.take 16 (List.drop 1 (List.take 17 (List.take 18 (List.drop (0 + i.toNat * 18) B)))))[4]? && (intV (List.take 16 (List.drop 1 (List.take 17 (List.take 18 (List.drop (0 + i.toNat * 18) A)))))[5]? == intV (List.take 16 (List.drop 1 (List.take 17 (List.take 18 (List.drop (0 + i.toNat * 18) B)))))[5]? && (intV (List.take 16 (List.drop 1 (List.take 17 (List.take 18 (List.drop (0 + i.toNat * 18) A)))))[6]? == intV (List.take 16 (List.drop 1 (List.take 17 (List.take 18 (List.drop (0 + i.toNat * 18) B)))))[6]? && (intV (List.take 16 (List.drop 1 (List.take 17 (List.take 18 (List.drop (0 + i.toNat * 18) A)))))[7]? == intV (List.take 16 (List.drop 1 (List.take 17 (List.take 18 (List.drop (0 + i.toNat * 18) B)))))[7]? && (intV (List.take 16 (List.drop 1 (List.take 17 (List.take 18 (List.drop (0 + i.toNat * 18) A)))))[8]? == intV (List.take 16 (List.drop 1 (List.take 17 (List.take 18 (List.drop (0 + i.toNat * 18) B)))))[8]? && (intV (List.take 16 (List.drop 1 (List.take 17 (List.take 18 (List.drop (0 + i.toNat * 18) A)))))[9]? == intV (List.take 16 (List.drop 1 (List.take 17 (List.take 18 (List.drop (0 + i.toNat * 18) B)))))[9]? && (intV (List.take 16 (List.drop 1 (List.take 17 (List.take 18 (List.drop (0 + i.toNat * 18) A)))))[10]? == intV (List.take 16 (List.drop 1 (List.take 17 (List.take 18 (List.drop (0 + i.toNat * 18) B)))))[10]? && (intV (List.take 16 (List.drop 1 (List.take 17 (List.take 18 (List.drop (0 + i.toNat * 18) A)))))[11]? == intV (List.take 16 (List.drop 1 (List.take 17 (List.take 18 (List.drop (0 + i.toNat * 18) B)))))[11]? && (intV (List.take 16 (List.drop 1 (List.take 17 (List.take 18 (List.drop (0 + i.toNat * 18) A)))))[12]? == intV (List.take 16 (List.drop 1 (List.take 17 (List.take 18 (List.drop (0 + i.toNat * 18) B)))))[12]? && (intV (List.take 16 (List.drop 1 (List.take 17 (List.take 18 (List.drop (0 + i.toNat * 18) A)))))[13]? == intV (List.take 16 (List.drop 1 (List.take 17 (List.take 18 (List.drop (0 + i.toNat * 18) B)))))[13]? && (intV (List.take 16 (List.drop 1 (List.take 17 (List.take 18 (List.drop (0 + i.toNat * 18) A)))))[14]? == intV (List.take 16 (List.drop 1 (List.take 17 (List.take 18 (List.drop (0 + i.toNat * 18) B)))))[14]? && (intV (List.take 16 (List.drop 1 (List.take 17 (List.take 18 (List.drop (0 + i.toNat * 18) A)))))[15]? == intV (List.take 16 (List.drop 1 (List.take 17 (List.take 18 (List.drop (0 + i.toNat * 18) B)))))[15]? && true))))))))))))))) && true) && (intV (List.take 18 (List.drop (0 + i.toNat * 18) A))[17]? == intV (List.take 18 (List.drop (0 + i.toNat * 18) B))[17]? && true))) = true then
 some ((AEx.norm, [AV.sl (some (0, 0)) a 0 false, AV.sl (some (1, 0)) b 0 false, int i64 (i64.wrap (n + 1)), int i64 m, int i64 (i64.wrap (i + 1))], (hMva0 A B a b n m i)))
 else none) else none) else none) else none) else none) else none) else none) else none) else none) else none) else none) else none) else none) else none) else none) else none) else none) else none) else none) else none) else none) else none) else none) else none) else none) else none) else none) else none) else none) else none) else none) else none) else none) else none) else none) else none) else none) else none) else none) else none) else none) else none) else none) else none) else none)))
 else none) := by
  kernel_rfl

noncomputable def hMvb0 (A B : List AV) (a b : Nat) (n m i : Int) : AHeap := [ABlk.cells A 18 Md.far none, ABlk.cells B 18 Md.far none]
theorem nfMvb (A B : List AV) (a b : Nat) (n m i : Int) :
 qround Try.prog [] 100 4 [(12, .bool true), (34, .bool false)] noT MVL mMv (vMv a b n m i) (hMv A B) =
 (if decide (i < m) = true then
 (if decide (i ≥ (a : Int)) = true then
 none
 else (if decide (i ≥ (b : Int)) = true then
 none
 else (if 0 ≤ i ∧ i < (a : Int) then
 (if 0 + i.toNat * 18 + 18 ≤ A.length then
 (if 0 ≤ i ∧ i < (b : Int) then
 (if 0 + i.toNat * 18 + 18 ≤ B.length then
 (if 17 ≤ (List.take 18 (List.drop (0 + i.toNat * 18) A)).length then
 (if 17 ≤ (List.take 18 (List.drop (0 + i.toNat * 18) B)).length then
 (if isBoolV (List.take 17 (List.take 18 (List.drop (0 + i.toNat * 18) A)))[0]? = true then
 (if isBoolV (List.take 17 (List.take 18 (List.drop (0 + i.toNat * 18) B)))[0]? = true then
 (if 17 ≤ (List.take 17 (List.take 18 (List.drop (0 + i.toNat * 18) A))).length then
 (if 17 ≤ (List.take 17 (List.take 18 (List.drop (0 + i.toNat * 18) B))).length then
 (if isIntV u8 (List.take 16 (List.drop 1 (List.take 17 (List.take 18 (List.drop (0 + i.toNat * 18) A)))))[0]? = true then
 (if isIntV u8 (List.take 16 (List.drop 1 (List.take 17 (List.take 18 (List.drop (0 + i.toNat * 18) B)))))[0]? = true then
 (if isIntV u8 (List.take 16 (List.drop 1 (List.take 17 (List.take 18 (List.drop (0 + i.toNat * 18) A)))))[1]? = true then
 (if isIntV u8 (List.take 16 (List.drop 1 (List.take 17 (List.take 18 (List.drop (0 + i.toNat * 18) B)))))[1]? = true then
 (if isIntV u8 (List.take 16 (List.drop 1 (List.take 17 (List.take 18 (List.drop (0 + i.toNat * 18) A)))))[2]? = true then
 (if isIntV u8 (List.take 16 (List.drop 1 (List.take 17 (List.take 18 (List.drop (0 + i.toNat * 18) B)))))[2]? = true then
 (if isIntV u8 (List.take 16 (List.drop 1 (List.take 17 (List.take 18 (List.drop (0 + i.toNat * 18) A)))))[3]? = true then
 (if isIntV u8 (List.take 16 (List.drop 1 (List.take 17 (List.take 18 (List.drop (0 + i.toNat * 18) B)))))[3]? = true then
 (if isIntV u8 (List.take 16 (List.drop 1 (List.take 17 (List.take 18 (List.drop (0 + i.toNat * 18) A)))))[4]? = true then
 (if isIntV u8 (List.take 16 (List.drop 1 (List.take 17 (List.take 18 (List.drop (0 + i.toNat * 18) B)))))[4]? = true then
 (if isIntV u8 (List.take 16 (List.drop 1 (List.take 17 (List.take 18 (List.drop (0 + i.toNat * 18) A)))))[5]? = true then
 (if isIntV u8 (List.take 16 (List.drop 1 (List.take 17 (List.take 18 (List.drop (0 + i.toNat * 18) B)))))[5]? = true then
 (if isIntV u8 (List.take 16 (List.drop 1 (List.take 17 (List.take 18 (List.drop (0 + i.toNat * 18) A)))))[6]? = true then
 (if isIntV u8 (List.take 16 (List.drop 1 (List.take 17 (List.take 18 (List.drop (0 + i.toNat * 18) B)))))[6]? = true then
 (if isIntV u8 (List.take 16 (List.drop 1 (List.take 17 (List.take 18 (List.drop (0 + i.toNat * 18) A)))))[7]? = true then
 (if isIntV u8 (List.take 16 (List.drop 1 (List.take 17 (List.take 18 (List.drop (0 + i.toNat * 18) B)))))[7]? = true then
 (if isIntV u8 (List.take 16 (List.drop 1 (List.take 17 (List.take 18 (List.drop (0 + i.toNat * 18) A)))))[8]? = true then
 (if isIntV u8 (List.take 16 (List.drop 1 (List.take 17 (List.take 18 (List.drop (0 + i.toNat * 18) B)))))[8]? = true then
 (if isIntV u8 (List.take 16 (List.drop 1 (List.take 17 (List.take 18 (List.drop (0 + i.toNat * 18) A)))))[9]? = true then
 (if isIntV u8 (List.take 16 (List.drop 1 (List.take 17 (List.take 18 (List.drop (0 + i.toNat * 18) B)))))[9]? = true then
 (if isIntV u8 (List.take 16 (List.drop 1 (List.take 17 (List.take 18 (List.drop (0 + i.toNat * 18) A)))))[10]? = true then
 (if isIntV u8 (List.take 16 (List.drop 1 (List.take 17 (List.take 18 (List.drop (0 + i.toNat * 18) B)))))[10]? = true then
 (if isIntV u8 (List.take 16 (List.drop 1 (List.take 17 (List.take 18 (List.drop (0 + i.toNat * 18) A)))))[11]? = true then
 (if isIntV u8 (List.take 16 (List.drop 1 (List.take 17 (List.take 18 (List.drop (0 + i.toNat * 18) B)))))[11]? = true then
 (if isIntV u8 (List.take 16 (List.drop 1 (List.take 17 (List.take 18 (List.drop (0 + i.toNat * 18) A)))))[12]? = true then
 (if isIntV u8 (List.take 16 (List.drop 1 (List.take 17 (List.take 18 (List.drop (0 + i.toNat * 18) B)))))[12]? = true then
 (if isIntV u8 (List.take 16 (List.drop 1 (List.take 17 (List.take 18 (List.drop (0 + i.toNat * 18) A)))))[13]? = true then
 (if isIntV u8 (List.take 16 (List.drop 1 (List.take 17 (List.take 18 (List.drop (0 + i.toNat * 18) B)))))[13]? = true then
 (if isIntV u8 (List.take 16 (List.drop 1 (List.take 17 (List.take 18 (List.drop (0 + i.toNat * 18) A)))))[14]? = true then
 (if isIntV u8 (List.take 16 (List.drop 1 (List.take 17 (List.take 18 (List.drop (0 + i.toNat * 18) B)))))[14]? = true then
 (if isIntV u8 (List.take 16 (List.drop 1 (List.take 17 (List.take 18 (List.drop (0 + i.toNat * 18) A)))))[15]? = true then
 (if isIntV u8 (List.take 16 (List.drop 1 (List.take 17 (List.take 18 (List.drop (0 + i.toNat * 18) B)))))[15]? = true then
 (if isIntV u16 (List.take 18 (List.drop (0 + i.toNat * 18) A))[17]? = true then
 (if isIntV u16 (List.take 18 (List.drop (0 + i.toNat * 18) B))[17]? = true then
 (if (!(boolV (List.take 17 (List.take 18 (List.drop (0 + i.toNat * 18) A)))[0]? == boolV (List.take 17 (List.take 18 (List.drop (0 + i.toNat * 18) B)))[0]? && (intV (List.take 16 (List.drop 1 (List.take 17 (List.take 18 (List.drop (0 + i.toNat * 18) A)))))[0]? == intV (List.take 16 (List.drop 1 (List.take 17 (List.take 18 (List.drop (0 + i.toNat * 18) B)))))[0]? && (intV (List.take 16 (List.drop 1 (List.take 17 (List.take 18 (List.drop (0 + i.toNat * 18) A)))))[1]? == intV (List.take 16 (List.drop 1 (List.take 17 (List.take 18 (List.drop (0 + i.toNat * 18) B)))))[1]? && (intV (List.take 16 (List.drop 1 (List.take 17 (List.take 18 (List.drop (0 + i.toNat * 18) A)))))[2]? == intV (List.take 16 (List.drop 1 (List.take 17 (List.take 18 (List.drop (0 + i.toNat * 18) B)))))[2]? && (intV (List.take 16 (List.drop 1 (List.take 17 (List.take 18 (List.drop (0 + i.toNat * 18) A)))))[3]? == intV (List.take 16 (List.drop 1 (List.take 17 (List.take 18 (List.drop (0 + i.toNat * 18) B)))))[3]? && (intV (List.take 16 (List.drop 1 (List.take 17 (List.take 18 (List.drop (0 + i.toNat * 18) A)))))[4]? == intV (List.take 16 (List.drop 1 (List.take 17 (List.take 18 (List.drop (0 + i.toNat * 18) B)))))[4]? && (intV (List.take 16 (List.drop 1 (List.take 17 (List.take 18 (List.drop (0 + i.toNat * 18) A)))))[5]? == intV (List.take 16 (List.drop 1 (List.take 17 (List.take 18 (List.drop (0 + i.toNat * 18) B)))))[5]? && (intV (List.take 16 (List.drop 1 (List.take 17 (List.take 18 (List.drop (0 + i.toNat * 18) A)))))[6]? == intV (List.take 16 (List.drop 1 (List.take 17 (List.take 18 (List.drop (0 + i.toNat * 18) B)))))[6]? && (intV (List.take 16 (List.drop 1 (List.take 17 (List.take 18 (List.drop (0 + i.toNat * 18) A)))))[7]? == intV (List.take 16 (List.drop 1 (List.take 17 (List.take 18 (List.drop (0 + i.toNat * 18) B)))))[7]? && (intV (List.take 16 (List.drop 1 (List.take 17 (List.take 18 (List.drop (0 + i.toNat * 18) A)))))[8]? == intV (List.take 16 (List.drop 1 (List.take 17 (List.take 18 (List.drop (0 + i.toNat * 18) B)))))[8]? && (intV (List.take 16 (List.drop 1 (List.take 17 (List.take 18 (List.drop (0 + i.toNat * 18) A)))))[9]? == intV (List.take 16 (List.drop 1 (List.take 17 (List.take 18 (List.drop (0 + i.toNat * 18) B)))))[9]? && (intV (List.take 16 (List.drop 1 (List.take 17 (List.take 18 (List.drop (0 + i.toNat * 18) A)))))[10]? == intV (List.take 16 (List.drop 1 (List.take 17 (List.take 18 (List.drop (0 + i.toNat * 18) B)))))[10]? && (intV (List.take 16 (List.drop 1 (List.take 17 (List.take 18 (List.drop (0 + i.toNat * 18) A)))))[11]? == intV (List.take 16 (List.drop 1 (List.take 17 (List.take 18 (List.drop (0 + i.toNat * 18) B)))))[11]? && (intV (List.take 16 (List.drop 1 (List.take 17 (List.take 18 (List.drop (0 + i.toNat * 18) A)))))[12]? == intV (List.take 16 (List.drop 1 (List.take 17 (List.take 18 (List.drop (0 + i.toNat * 18) B)))))[12]? && (intV (List.take 16 (List.drop 1 (List.take 17 (List.take 18 (List.drop (0 + i.toNat * 18) A)))))[13]? == intV (List.take 16 (List.drop 1 (List.take 17 (List.take 18 (List.drop (0 + i.toNat * 18) B)))))[13]? && (intV (List.take 16 (List.drop 1 (List.take 17 (List.take 18 (List.drop (0 + i.toNat * 18) A)))))[14]? == intV (List.take 16 (List.drop 1 (List.take 17 (List.take 18 (List.drop (0 + i.toNat * 18) B)))))[14]? && (intV (List.take 16 (List.drop 1 (List.take 17 (List.take 18 (List.drop (0 + i.toNat * 18) A)))))[15]? == intV (List.take 16 (List.drop 1 (List.take 17 (List.take 18 (List.drop (0 + i.toNat * 18) B)))))[15]? && true))))))))))))))) && true) && (intV (List.take 18 (List.drop (0 + i.toNat * 18) A))[17]? == intV (List.take 18 (List.drop (0 + i.toNat * 18) B))[17]? && true))) = false then
 some ((AEx.norm, [AV.sl (some (0, 0)) a 0 false, AV.sl (some (1, 0)) b 0 false, int i64 n, int i64 m, int i64 (i64.wrap (i + 1))], (hMvb0 A B a b n m i)))
 else none) else none) else none) else none) else none) else none) else none) else none) else none) else none) else none) else none) else none) else none) else none) else none) else none) else none) else none) else none) else none) else none) else none) else none) else none) else none) else none) else none) else none) else none) else none) else none) else none) else none) else none) else none) else none) else none) else none) else none) else none) else none) else none) else none) else none)))
 else none) := by
  kernel_rfl

noncomputable def hMvs0 (A B : List AV) (a b : Nat) (n m i : Int) : AHeap := [ABlk.cells A 18 Md.far none, ABlk.cells B 18 Md.far none]
theorem nfMvs (A B : List AV) (a b : Nat) (n m i : Int) :
 qround Try.prog [] 100 4 [(12, .bool false)] noT MVL mMv (vMv a b n m i) (hMv A B) =
 (if decide (i < m) = false then
 some ((AEx.exit 0, [AV.sl (some (0, 0)) a 0 false, AV.sl (some (1, 0)) b 0 false, int i64 n, int i64 m, int i64 i], (hMvs0 A B a b n m i)))
 else none) := by
  kernel_rfl

noncomputable def hMv0 (q : Prop) (A B : List AV) (a b : Nat) (n m i : Int) : AHeap := [ABlk.cells A 18 Md.far none, ABlk.cells B 18 Md.far none]
theorem nfMv {R : Type} (q : Prop) (A B : List AV) (a b : Nat) (n m i : Int) (K : AV → AHeap → Option R) :
 qrun Try.prog [] 100 4 [] [(2, fixC q mMv (vMv a b 0 m 0) (hMv A B) (.exit 0) (vMv a b n m i) (hMv A B))] 18 [.sl (some (0, 0)) a 0 false, .sl (some (1, 0)) b 0 false] (hMv A B) K =
 (if cdec (q ∧ [AV.sl (some (0, 0)) a 0 false, AV.sl (some (1, 0)) b 0 false, int i64 0, int i64 (if true = true then if (b : Int) > (a : Int) then (b : Int) else (a : Int) else if (b : Int) < (a : Int) then (b : Int) else (a : Int)), int i64 0] = [AV.sl (some (0, 0)) a 0 false, AV.sl (some (1, 0)) b 0 false, int i64 0, int i64 m, int i64 0] ∧ (hMv0 q A B a b n m i) = (hMv0 q A B a b n m i)) = true then
 K (int i64 n) ((hMv0 q A B a b n m i))
 else none) := by
  kernel_rfl


end Go.Proofs.Ytlppbeoiphglcaa.L
