/- HealthOrder: the last loop's rows. -/
import Derived.Test.YtpghomcohejejaaHealthOrderN
set_option autoImplicit false
set_option maxRecDepth 100000
set_option linter.unusedVariables false
set_option linter.unusedSimpArgs false
namespace Go.Proofs.Ytpghomcohejejaa.L
open Go Go.Abs
open Go.IntKind
open Go.Abs.AV (int)
open Go.Abs.ABlk (cells)

noncomputable def hHO3t0 (C E : List AV) (es : List (AV × AV × Nat)) (c k z : Nat) (O L X Y : List AV) (q a b : Nat) (i : Int) : AHeap := [ABlk.cells C 1 Md.far none, ABlk.cells E 1 Md.far none, ABlk.mp es c true, cells [int i64 3, AV.map (some 2), AV.sl (some (4, 0)) k z false] 3 Md.own none, ABlk.cells O 18 Md.own none, ABlk.cells L 1 Md.own none, ABlk.cells X 19 Md.own none, ABlk.cells Y 19 Md.own none]
theorem nfHO3t (C E : List AV) (es : List (AV × AV × Nat)) (c k z : Nat) (O L X Y : List AV) (q a b : Nat) (i : Int) :
 qround Try.prog tHO 100 4 [(127, .bool true), (168, .bool true), (180, .bool false)] noT HO3 mHO3 (vHO3 q a b i) (hHO3 C E es c k z O L X Y) =
 (if decide (i < (q : Int)) = true then
 (if 0 ≤ i ∧ i < (a : Int) then
 (if 0 + i.toNat * 19 + 0 + 18 ≤ X.length then
 (if 0 ≤ i ∧ i < (q : Int) then
 (if isIntV i64 L[0 + i.toNat * 1]? = true then
 (if 17 ≤ (List.take 18 (List.drop (0 + i.toNat * 19 + 0) X)).length then
 (if 17 ≤ (opq cellsN true (intV L[0 + i.toNat * 1]?)).length then
 (if isBoolV (List.take 17 (List.take 18 (List.drop (0 + i.toNat * 19 + 0) X)))[0]? = true then
 (if isBoolV (List.take 17 (opq cellsN true (intV L[0 + i.toNat * 1]?)))[0]? = true then
 (if 17 ≤ (List.take 17 (List.take 18 (List.drop (0 + i.toNat * 19 + 0) X))).length then
 (if 17 ≤ (List.take 17 (opq cellsN true (intV L[0 + i.toNat * 1]?))).length then
 (if isIntV u8 (List.take 16 (List.drop 1 (List.take 17 (List.take 18 (List.drop (0 + i.toNat * 19 + 0) X)))))[0]? = true then
 (if isIntV u8 (List.take 16 (List.drop 1 (List.take 17 (opq cellsN true (intV L[0 + i.toNat * 1]?)))))[0]? = true then
 (if isIntV u8 (List.take 16 (List.drop 1 (List.take 17 (List.take 18 (List.drop (0 + i.toNat * 19 + 0) X)))))[1]? = true then
 (if isIntV u8 (List.take 16 (List.drop 1 (List.take 17 (opq cellsN true (intV L[0 + i.toNat * 1]?)))))[1]? = true then
 (if isIntV u8 (List.take 16 (List.drop 1 (List.take 17 (List.take 18 (List.drop (0 + i.toNat * 19 + 0) X)))))[2]? = true then
 (if isIntV u8 (List.take 16 (List.drop 1 (List.take 17 (opq cellsN true (intV L[0 + i.toNat * 1]?)))))[2]? = true then
 (if isIntV u8 (List.take 16 (List.drop 1 (List.take 17 (List.take 18 (List.drop (0 + i.toNat * 19 + 0) X)))))[3]? = true then
 (if isIntV u8 (List.take 16 (List.drop 1 (List.take 17 (opq cellsN true (intV L[0 + i.toNat * 1]?)))))[3]? = true then
 (if isIntV u8 (List.take 16 (List.drop 1 (List.take 17 (List.take 18 (List.drop (0 + i.toNat * 19 + 0) X)))))[4]? = true then
 (if isIntV u8 (List.take 16 (List.drop 1 (List.take 17 (opq cellsN true (intV L[0 + i.toNat * 1]?)))))[4]? = true then
 (if isIntV u8 (List.take 16 (List.drop 1 (List.take 17 (List.take 18 (List.drop (0 + i.toNat * 19 + 0) X)))))[5]? = true then
 (if isIntV u8 (List.take 16 (List.drop 1 (List.take 17 (opq cellsN true (intV L[0 + i.toNat * 1]?)))))[5]? = true then
 (if isIntV u8 (List.take 16 (List.drop 1 (List.take 17 (List.take 18 (List.drop (0 + i.toNat * 19 + 0) X)))))[6]? = true then
 (if isIntV u8 (List.take 16 (List.drop 1 (List.take 17 (opq cellsN true (intV L[0 + i.toNat * 1]?)))))[6]? = true then
 (if isIntV u8 (List.take 16 (List.drop 1 (List.take 17 (List.take 18 (List.drop (0 + i.toNat * 19 + 0) X)))))[7]? = true then
 (if isIntV u8 (List.take 16 (List.drop 1 (List.take 17 (opq cellsN true (intV L[0 + i.toNat * 1]?)))))[7]? = true then
 (if isIntV u8 (List.take 16 (List.drop 1 (List.take 17 (List.take 18 (List.drop (0 + i.toNat * 19 + 0) X)))))[8]? = true then
 (if isIntV u8 (List.take 16 (List.drop 1 (List.take 17 (opq cellsN true (intV L[0 + i.toNat * 1]?)))))[8]? = true then
 (if isIntV u8 (List.take 16 (List.drop 1 (List.take 17 (List.take 18 (List.drop (0 + i.toNat * 19 + 0) X)))))[9]? = true then
 (if isIntV u8 (List.take 16 (List.drop 1 (List.take 17 (opq cellsN true (intV L[0 + i.toNat * 1]?)))))[9]? = true then
 (if isIntV u8 (List.take 16 (List.drop 1 (List.take 17 (List.take 18 (List.drop (0 + i.toNat * 19 + 0) X)))))[10]? = true then
 (if isIntV u8 (List.take 16 (List.drop 1 (List.take 17 (opq cellsN true (intV L[0 + i.toNat * 1]?)))))[10]? = true then
 (if isIntV u8 (List.take 16 (List.drop 1 (List.take 17 (List.take 18 (List.drop (0 + i.toNat * 19 + 0) X)))))[11]? = true then
 (if isIntV u8 (List.take 16 (List.drop 1 (List.take 17 (opq cellsN true (intV L[0 + i.toNat * 1]?)))))[11]? = true then
 (if isIntV u8 (List.take 16 (List.drop 1 (List.take 17 (List.take 18 (List.drop (0 + i.toNat * 19 + 0) X)))))[12]? = true then
 (if isIntV u8 (List.take 16 (List.drop 1 (List.take 17 (opq cellsN true (intV L[0 + i.toNat * 1]?)))))[12]? = true then
 (if isIntV u8 (List.take 16 (List.drop 1 (List.take 17 (List.take 18 (List.drop (0 + i.toNat * 19 + 0) X)))))[13]? = true then
 (if isIntV u8 (List.take 16 (List.drop 1 (List.take 17 (opq cellsN true (intV L[0 + i.toNat * 1]?)))))[13]? = true then
 (if isIntV u8 (List.take 16 (List.drop 1 (List.take 17 (List.take 18 (List.drop (0 + i.toNat * 19 + 0) X)))))[14]? = true then
 (if isIntV u8 (List.take 16 (List.drop 1 (List.take 17 (opq cellsN true (intV L[0 + i.toNat * 1]?)))))[14]? = true then
 (if isIntV u8 (List.take 16 (List.drop 1 (List.take 17 (List.take 18 (List.drop (0 + i.toNat * 19 + 0) X)))))[15]? = true then
 (if isIntV u8 (List.take 16 (List.drop 1 (List.take 17 (opq cellsN true (intV L[0 + i.toNat * 1]?)))))[15]? = true then
 (if isIntV u16 (List.take 18 (List.drop (0 + i.toNat * 19 + 0) X))[17]? = true then
 (if isIntV u16 (opq cellsN true (intV L[0 + i.toNat * 1]?))[17]? = true then
 (if (!(boolV (List.take 17 (List.take 18 (List.drop (0 + i.toNat * 19 + 0) X)))[0]? == boolV (List.take 17 (opq cellsN true (intV L[0 + i.toNat * 1]?)))[0]? && (intV (List.take 16 (List.drop 1 (List.take 17 (List.take 18 (List.drop (0 + i.toNat * 19 + 0) X)))))[0]? == intV (List.take 16 (List.drop 1 (List.take 17 (opq cellsN true (intV L[0 + i.toNat * 1]?)))))[0]? && (intV (List.take 16 (List.drop 1 (List.take 17 (List.take 18 (List.drop (0 + i.toNat * 19 + 0) X)))))[1]? == intV (List.take 16 (List.drop 1 (List.take 17 (opq cellsN true (intV L[0 + i.toNat * 1]?)))))[1]? && (intV (List.take 16 (List.drop 1 (List.take 17 (List.take 18 (List.drop (0 + i.toNat * 19 + 0) X)))))[2]? == intV (List.take 16 (List.drop 1 (List.take 17 (opq cellsN true (intV L[0 + i.toNat * 1]?)))))[2]? && (intV (List.take 16 (List.drop 1 (List.take 17 (List.take 18 (List.drop (0 + i.toNat * 19 + 0) X)))))[3]? == intV (List.take 16 (List.drop 1 (List.take 17 (opq cellsN true (intV L[0 + i.toNat * 1]?)))))[3]? && (intV (List.take 16 (List.drop 1 (List.take 17 (List.take 18 (List.drop (0 + i.toNat * 19 + 0) X)))))[4]? == intV (List.take 16 (List.drop 1 (List.take 17 (opq cellsN true (intV L[0 + i.toNat * 1]?)))))[4]? && (intV (List.take 16 (List.drop 1 (List.take 17 (List.take 18 (List.drop (0 + i.toNat * 19 + 0) X)))))[5]? == intV (List.take 16 (List.drop 1 (List.take 17 (opq cellsN true (intV L[0 + i.toNat * 1]?)))))[5]? && (intV (List.take 16 (List.drop 1 (List.take 17 (List.take 18 (List.drop (0 + i.toNat * 19 + 0) X)))))[6]? == intV (List.take 16 (List.drop 1 (List.take 17 (opq cellsN true (intV L[0 + i.toNat * 1]?)))))[6]? && (intV (List.take 16 (List.drop 1 (List.take 17 (List.take 18 (List.drop (0 + i.toNat * 19 + 0) X)))))[7]? == intV (List.take 16 (List.drop 1 (List.take 17 (opq cellsN true (intV L[0 + i.toNat * 1]?)))))[7]? && (intV (List.take 16 (List.drop 1 (List.take 17 (List.take 18 (List.drop (0 + i.toNat * 19 + 0) X)))))[8]? == intV (List.take 16 (List.drop 1 (List.take 17 (opq cellsN true (intV L[0 + i.toNat * 1]?)))))[8]? && (intV (List.take 16 (List.drop 1 (List.take 17 (List.take 18 (List.drop (0 + i.toNat * 19 + 0) X)))))[9]? == intV (List.take 16 (List.drop 1 (List.take 17 (opq cellsN true (intV L[0 + i.toNat * 1]?)))))[9]? && (intV (List.take 16 (List.drop 1 (List.take 17 (List.take 18 (List.drop (0 + i.toNat * 19 + 0) X)))))[10]? == intV (List.take 16 (List.drop 1 (List.take 17 (opq cellsN true (intV L[0 + i.toNat * 1]?)))))[10]? && (intV (List.take 16 (List.drop 1 (List.take 17 (List.take 18 (List.drop (0 + i.toNat * 19 + 0) X)))))[11]? == intV (List.take 16 (List.drop 1 (List.take 17 (opq cellsN true (intV L[0 + i.toNat * 1]?)))))[11]? && (intV (List.take 16 (List.drop 1 (List.take 17 (List.take 18 (List.drop (0 + i.toNat * 19 + 0) X)))))[12]? == intV (List.take 16 (List.drop 1 (List.take 17 (opq cellsN true (intV L[0 + i.toNat * 1]?)))))[12]? && (intV (List.take 16 (List.drop 1 (List.take 17 (List.take 18 (List.drop (0 + i.toNat * 19 + 0) X)))))[13]? == intV (List.take 16 (List.drop 1 (List.take 17 (opq cellsN true (intV L[0 + i.toNat * 1]?)))))[13]? && (intV (List.take 16 (List.drop 1 (List.take 17 (List.take 18 (List.drop (0 + i.toNat * 19 + 0) X)))))[14]? == intV (List.take 16 (List.drop 1 (List.take 17 (opq cellsN true (intV L[0 + i.toNat * 1]?)))))[14]? && (intV (List.take 16 (List.drop 1 (List.take 17 (List.take 18 (List.drop (0 + i.toNat * 19 + 0) X)))))[15]? == intV (List.take 16 (List.drop 1 (List.take 17 (opq cellsN true (intV L[0 + i.toNat * 1]?)))))[15]? && true))))))))))))))) && true) && (intV (List.take 18 (List.drop (0 + i.toNat * 19 + 0) X))[17]? == intV (opq cellsN true (intV L[0 + i.toNat * 1]?))[17]? && true))) = true then
 none
 else (if 0 ≤ i ∧ i < (a : Int) then
 (if isIntV i64 X[0 + i.toNat * 19 + 18]? = true then
 (if 0 ≤ i ∧ i < (a : Int) then
 (if 0 + i.toNat * 19 + 0 + 18 ≤ X.length then
 (if cdec (3 ≠ 2 ∧ 3 ≠ 4 ∧ 2 ≠ 4 ∧ TelOk (unS 3 es c z O) (dipOf (List.take 18 (List.drop (0 + i.toNat * 19 + 0) X))) 3 es c k z O (List.take 18 (List.drop (0 + i.toNat * 19 + 0) X))) = true then
 (if (intV X[0 + i.toNat * 19 + 18]? != opq (cntS (unS 3 es c z O) (dipOf (List.take 18 (List.drop (0 + i.toNat * 19 + 0) X))))) = true then
 none
 else (if 0 ≤ i ∧ i < (a : Int) then
 (if isIntV i64 X[0 + i.toNat * 19 + 18]? = true then
 (if decide (intV X[0 + i.toNat * 19 + 18]? < 1) = true then
 none
 else (if decide (i < (b : Int)) = true then
 (if 0 ≤ i ∧ i < (b : Int) then
 (if 0 + i.toNat * 19 + 19 ≤ Y.length then
 (if 0 ≤ i ∧ i < (a : Int) then
 (if 0 + i.toNat * 19 + 19 ≤ X.length then
 (if 18 ≤ (List.take 19 (List.drop (0 + i.toNat * 19) Y)).length then
 (if 18 ≤ (List.take 19 (List.drop (0 + i.toNat * 19) X)).length then
 (if 17 ≤ (List.take 18 (List.take 19 (List.drop (0 + i.toNat * 19) Y))).length then
 (if 17 ≤ (List.take 18 (List.take 19 (List.drop (0 + i.toNat * 19) X))).length then
 (if isBoolV (List.take 17 (List.take 18 (List.take 19 (List.drop (0 + i.toNat * 19) Y))))[0]? = true then
 (if isBoolV (List.take 17 (List.take 18 (List.take 19 (List.drop (0 + i.toNat * 19) X))))[0]? = true then
 (if 17 ≤ (List.take 17 (List.take 18 (List.take 19 (List.drop (0 + i.toNat * 19) Y)))).length then
 (if 17 ≤ (List.take 17 (List.take 18 (List.take 19 (List.drop (0 + i.toNat * 19) X)))).length then
 (if isIntV u8 (List.take 16 (List.drop 1 (List.take 17 (List.take 18 (List.take 19 (List.drop (0 + i.toNat * 19) Y))))))[0]? = true then
 (if isIntV u8 (List.take 16 (List.drop 1 (List.take 17 (List.take 18 (List.take 19 (List.drop (0 + i.toNat * 19) X))))))[0]? = true then
 (if isIntV u8 (List.take 16 (List.drop 1 (List.take 17 (List.take 18 (List.take 19 (List.drop (0 + i.toNat * 19) Y))))))[1]? = true then
 (if isIntV u8 (List.take 16 (List.drop 1 (List.take 17 (List.take 18 (List.take 19 (List.drop (0 + i.toNat * 19) X))))))[1]? = true then
 (if isIntV u8 (List.take 16 (List.drop 1 (List.take 17 (List.take 18 (List.take 19 (List.drop (0 + i.toNat * 19) Y))))))[2]? = true then
 (if isIntV u8 (List.take 16 (List.drop 1 (List.take 17 (List.take 18 (List.take 19 (List.drop (0 + i.toNat * 19) X))))))[2]? = true then
 (if isIntV u8 (List.take 16 (List.drop 1 (List.take 17 (List.take 18 (List.take 19 (List.drop (0 + i.toNat * 19) Y))))))[3]? = true then
 (if isIntV u8 (List.take 16 (List.drop 1 (List.take 17 (List.take 18 (List.take 19 (List.drop (0 + i.toNat * 19) X))))))[3]? = true then
 (if isIntV u8 (List.take 16 (List.drop 1 (List.take 17 (List.take 18 (List.take 19 (List.drop (0 + i.toNat * 19) Y))))))[4]? = true then
 (if isIntV u8 (List.take 16 (List.drop 1 (List.take 17 (List.take 18 (List.take 19 (List.drop (0 + i.toNat * 19) X))))))[4]? = true then
 (if isIntV u8 (List.take 16 (List.drop 1 (List.take 17 (List.take 18 (List.take 19 (List.drop (0 + i.toNat * 19) Y))))))[5]? = true then
 (if isIntV u8 (List.take 16 (List.drop 1 (List.take 17 (List.take 18 (List.take 19 (List.drop (0 + i.toNat * 19) X))))))[5]? = true then
 (if isIntV u8 (List.take 16 (List.drop 1 (List.take 17 (List.take 18 (List.take 19 (List.drop (0 + i.toNat * 19) Y))))))[6]? = true then
 (if isIntV u8 (List.take 16 (List.drop 1 (List.take 17 (List.take 18 (List.take 19 (List.drop (0 + i.toNat * 19) X))))))[6]? = true then
 (if isIntV u8 (List.take 16 (List.drop 1 (List.take 17 (List.take 18 (List.take 19 (List.drop (0 + i.toNat * 19) Y))))))[7]? = true then
 (if isIntV u8 (List.take 16 (List.drop 1 (List.take 17 (List.take 18 (List.take 19 (List.drop (0 + i.toNat * 19) X))))))[7]? = true then
 (if isIntV u8 (List.take 16 (List.drop 1 (List.take 17 (List.take 18 (List.take 19 (List.drop (0 + i.toNat * 19) Y))))))[8]? = true then
 (if isIntV u8 (List.take 16 (List.drop 1 (List.take 17 (List.take 18 (List.take 19 (List.drop (0 + i.toNat * 19) X))))))[8]? = true then
 (if isIntV u8 (List.take 16 (List.drop 1 (List.take 17 (List.take 18 (List.take 19 (List.drop (0 + i.toNat * 19) Y))))))[9]? = true then
 (if isIntV u8 (List.take 16 (List.drop 1 (List.take 17 (List.take 18 (List.take 19 (List.drop (0 + i.toNat * 19) X))))))[9]? = true then
 (if isIntV u8 (List.take 16 (List.drop 1 (List.take 17 (List.take 18 (List.take 19 (List.drop (0 + i.toNat * 19) Y))))))[10]? = true then
 (if isIntV u8 (List.take 16 (List.drop 1 (List.take 17 (List.take 18 (List.take 19 (List.drop (0 + i.toNat * 19) X))))))[10]? = true then
 (if isIntV u8 (List.take 16 (List.drop 1 (List.take 17 (List.take 18 (List.take 19 (List.drop (0 + i.toNat * 19) Y))))))[11]? = true then
 (if isIntV u8 (List.take 16 (List.drop 1 (List.take 17 (List.take 18 (List.take 19 (List.drop (0 + i.toNat * 19) X))))))[11]? = true then
 (if isIntV u8 (List.take 16 (List.drop 1 (List.take 17 (List.take 18 (List.take 19 (List.drop (0 + i.toNat * 19) Y))))))[12]? = true then
 (if isIntV u8 (List.take 16 (List.drop 1 (List.take 17 (List.take 18 (List.take 19 (List.drop (0 + i.toNat * 19) X))))))[12]? = true then
 (if isIntV u8 (List.take 16 (List.drop 1 (List.take 17 (List.take 18 (List.take 19 (List.drop (0 + i.toNat * 19) Y))))))[13]? = true then
 (if isIntV u8 (List.take 16 (List.drop 1 (List.take 17 (List.take 18 (List.take 19 (List.drop (0 + i.toNat * 19) X))))))[13]? = true then
 (if isIntV u8 (List.take 16 (List.drop 1 (List.take 17 (List.take 18 (List.take 19 (List.drop (0 + i.toNat * 19) Y))))))[14]? = true then
 (if isIntV u8 (List.take 16 (List.drop 1 (List.take 17 (List.take 18 (List.take 19 (List.drop (0 + i.toNat * 19) X))))))[14]? = true then
 (if isIntV u8 (List.take 16 (List.drop 1 (List.take 17 (List.take 18 (List.take 19 (List.drop (0 + i.toNat * 19) Y))))))[15]? = true then
 (if isIntV u8 (List.take 16 (List.drop 1 (List.take 17 (List.take 18 (List.take 19 (List.drop (0 + i.toNat * 19) X))))))[15]? = true then
 (if isIntV u16 (List.take 18 (List.take 19 (List.drop (0 + i.toNat * 19) Y)))[17]? = true then
 (if isIntV u16 (List.take 18 (List.take 19 (List.drop (0 + i.toNat * 19) X)))[17]? = true then
 (if isIntV i64 (List.take 19 (List.drop (0 + i.toNat * 19) Y))[18]? = true then
 (if isIntV i64 (List.take 19 (List.drop (0 + i.toNat * 19) X))[18]? = true then
 (if (!(boolV (List.take 17 (List.take 18 (List.take 19 (List.drop (0 + i.toNat * 19) Y))))[0]? == boolV (List.take 17 (List.take 18 (List.take 19 (List.drop (0 + i.toNat * 19) X))))[0]? && (intV (List.take 16 (List.drop 1 (List.take 17 (List.take 18 (List.take 19 (List.drop (0 + i.toNat * 19) Y))))))[0]? == intV (List.take 16 (List.drop 1 (List.take 17 (List.take 18 (List.take 19 (List.drop (0 + i.toNat * 19) X))))))[0]? && (intV (List.take 16 (List.drop 1 (List.take 17 (List.take 18 (List.take 19 (List.drop (0 + i.toNat * 19) Y))))))[1]? == intV (List.take 16 (List.drop 1 (List.take 17 (List.take 18 (List.take 19 (List.drop (0 + i.toNat * 19) X))))))[1]? && (intV (List.take 16 (List.drop 1 (List.take 17 (List.take 18 (List.take 19 (List.drop (0 + i.toNat * 19) Y))))))[2]? == intV (List.take 16 (List.drop 1 (List.take 17 (List.take 18 (List.take 19 (List.drop (0 + i.toNat * 19) X))))))[2]? && (intV (List.take 16 (List.drop 1 (List.take 17 (List.take 18 (List.take 19 (List.drop (0 + i.toNat * 19) Y))))))[3]? == intV (List.take 16 (List.drop 1 (List.take 17 (List.take 18 (List.take 19 (List.drop (0 + i.toNat * 19) X))))))[3]? && (intV (List.take 16 (List.drop 1 (List.take 17 (List.take 18 (List.take 19 (List.drop (0 + i.toNat * 19) Y))))))[4]? == intV (List.take 16 (List.drop 1 (List.take 17 (List.take 18 (List.take 19 (List.drop (0 + i.toNat * 19) X))))))[4]? && (intV (List.take 16 (List.drop 1 (List.take 17 (List.take 18 (List.take 19 (List.drop (0 + i.toNat * 19) Y))))))[5]? == intV (List.take 16 (List.drop 1 (List.take 17 (List.take 18 (List.take 19 (List.drop (0 + i.toNat * 19) X))))))[5]? && (intV (List.take 16 (List.drop 1 (List.take 17 (List.take 18 (List.take 19 (List.drop (0 + i.toNat * 19) Y))))))[6]? == intV (List.take 16 (List.drop 1 (List.take 17 (List.take 18 (List.take 19 (List.drop (0 + i.toNat * 19) X))))))[6]? && (intV (List.take 16 (List.drop 1 (List.take 17 (List.take 18 (List.take 19 (List.drop (0 + i.toNat * 19) Y))))))[7]? == intV (List.take 16 (List.drop 1 (List.take 17 (List.take 18 (List.take 19 (List.drop (0 + i.toNat * 19) X))))))[7]? && (intV (List.take 16 (List.drop 1 (List.take 17 (List.take 18 (List.take 19 (List.drop (0 + i.toNat * 19) Y))))))[8]? == intV (List.take 16 (List.drop 1 (List.take 17 (List.take 18 (List.take 19 (List.drop (0 + i.toNat * 19) X))))))[8]? && (intV (List.take 16 (List.drop 1 (List.take 17 (List.take 18 (List.take 19 (List.drop (0 + i.toNat * 19) Y))))))[9]? == intV (List.take 16 (List.drop 1 (List.take 17 (List.take 18 (List.take 19 (List.drop (0 + i.toNat * 19) X))))))[9]? && (intV (List.take 16 (List.drop 1 (List.take 17 (List.take 18 (List.take 19 (List.drop (0 + i.toNat * 19) Y))))))[10]? == intV (List.take 16 (List.drop 1 (List.take 17 (List.take 18 (List.take 19 (List.drop (0 + i.toNat * 19) X))))))[10]? && (intV (List.take 16 (List.drop 1 (List.take 17 (List.take 18 (List.take 19 (List.drop (0 + i.toNat * 19) Y))))))[11]? == intV (List.take 16 (List.drop 1 (List.take 17 (List.take 18 (List.take 19 (List.drop (0 + i.toNat * 19) X))))))[11]? && (intV (List.take 16 (List.drop 1 (List.take 17 (List.take 18 (List.take 19 (List.drop (0 + i.toNat * 19) Y))))))[12]? == intV (List.take 16 (List.drop 1 (List.take 17 (List.take 18 (List.take 19 (List.drop (0 + i.toNat * 19) X))))))[12]? && (intV (List.take 16 (List.drop 1 (List.take 17 (List.take 18 (List.take 19 (List.drop (0 + i.toNat * 19) Y))))))[13]? == intV (List.take 16 (List.drop 1 (List.take 17 (List.take 18 (List.take 19 (List.drop (0 + i.toNat * 19) X))))))[13]? && (intV (List.take 16 (List.drop 1 (List.take 17 (List.take 18 (List.take 19 (List.drop (0 + i.toNat * 19) Y))))))[14]? == intV (List.take 16 (List.drop 1 (List.take 17 (List.take 18 (List.take 19 (List.drop (0 + i.toNat * 19) X))))))[14]? && (intV (List.take 16 (List.drop 1 (List.take 17 (List.take 18 (List.take 19 (List.drop (0 + i.toNat * 19) Y))))))[15]? == intV (List.take 16 (List.drop 1 (List.take 17 (List.take 18 (List.take 19 (List.drop (0 + i.toNat * 19) X))))))[15]? && true))))))))))))))) && true) && (intV (List.take 18 (List.take 19 (List.drop (0 + i.toNat * 19) Y)))[17]? == intV (List.take 18 (List.take 19 (List.drop (0 + i.toNat * 19) X)))[17]? && true) && (intV (List.take 19 (List.drop (0 + i.toNat * 19) Y))[18]? == intV (List.take 19 (List.drop (0 + i.toNat * 19) X))[18]? && true))) = false then
 (if 0 + i.toNat * 19 + 0 + 18 ≤ X.length then
 (if (AV.agg (List.take 18 (List.drop (0 + i.toNat * 19 + 0) X))).beq (AV.agg (List.take 18 (List.drop (0 + i.toNat * 19 + 0) X))) = true then
 (if isIntV i64 X[0 + i.toNat * 19 + 18]? = true then
 (if (int i64 (intV X[0 + i.toNat * 19 + 18]?)).beq (int i64 (intV X[0 + i.toNat * 19 + 18]?)) = true then
 some ((AEx.norm, [AV.ptr (some (3, 0)), AV.sl (some (5, 0)) q 0 false, AV.sl (some (6, 0)) a 0 false, AV.sl (some (7, 0)) b 0 false, int i64 (i64.wrap (i + 1))], (hHO3t0 C E es c k z O L X Y q a b i)))
 else none) else none) else none) else none) else none) else none) else none) else none) else none) else none) else none) else none) else none) else none) else none) else none) else none) else none) else none) else none) else none) else none) else none) else none) else none) else none) else none) else none) else none) else none) else none) else none) else none) else none) else none) else none) else none) else none) else none) else none) else none) else none) else none) else none) else none) else none) else none) else none) else none) else none) else none) else none) else none) else none))
 else none) else none))
 else none) else none) else none) else none) else none))
 else none) else none) else none) else none) else none) else none) else none) else none) else none) else none) else none) else none) else none) else none) else none) else none) else none) else none) else none) else none) else none) else none) else none) else none) else none) else none) else none) else none) else none) else none) else none) else none) else none) else none) else none) else none) else none) else none) else none) else none) else none) else none) else none) else none) else none) := by
  kernel_rfl

noncomputable def hHO3f0 (C E : List AV) (es : List (AV × AV × Nat)) (c k z : Nat) (O L X Y : List AV) (q a b : Nat) (i : Int) : AHeap := [ABlk.cells C 1 Md.far none, ABlk.cells E 1 Md.far none, ABlk.mp es c true, cells [int i64 3, AV.map (some 2), AV.sl (some (4, 0)) k z false] 3 Md.own none, ABlk.cells O 18 Md.own none, ABlk.cells L 1 Md.own none, ABlk.cells X 19 Md.own none, ABlk.cells Y 19 Md.own none]
theorem nfHO3f (C E : List AV) (es : List (AV × AV × Nat)) (c k z : Nat) (O L X Y : List AV) (q a b : Nat) (i : Int) :
 qround Try.prog tHO 100 4 [(127, .bool true), (168, .bool false), (180, .bool false)] noT HO3 mHO3 (vHO3 q a b i) (hHO3 C E es c k z O L X Y) =
 (if decide (i < (q : Int)) = true then
 (if 0 ≤ i ∧ i < (a : Int) then
 (if 0 + i.toNat * 19 + 0 + 18 ≤ X.length then
 (if 0 ≤ i ∧ i < (q : Int) then
 (if isIntV i64 L[0 + i.toNat * 1]? = true then
 (if 17 ≤ (List.take 18 (List.drop (0 + i.toNat * 19 + 0) X)).length then
 (if 17 ≤ (opq cellsN true (intV L[0 + i.toNat * 1]?)).length then
 (if isBoolV (List.take 17 (List.take 18 (List.drop (0 + i.toNat * 19 + 0) X)))[0]? = true then
 (if isBoolV (List.take 17 (opq cellsN true (intV L[0 + i.toNat * 1]?)))[0]? = true then
 (if 17 ≤ (List.take 17 (List.take 18 (List.drop (0 + i.toNat * 19 + 0) X))).length then
 (if 17 ≤ (List.take 17 (opq cellsN true (intV L[0 + i.toNat * 1]?))).length then
 (if isIntV u8 (List.take 16 (List.drop 1 (List.take 17 (List.take 18 (List.drop (0 + i.toNat * 19 + 0) X)))))[0]? = true then
 (if isIntV u8 (List.take 16 (List.drop 1 (List.take 17 (opq cellsN true (intV L[0 + i.toNat * 1]?)))))[0]? = true then
 (if isIntV u8 (List.take 16 (List.drop 1 (List.take 17 (List.take 18 (List.drop (0 + i.toNat * 19 + 0) X)))))[1]? = true then
 (if isIntV u8 (List.take 16 (List.drop 1 (List.take 17 (opq cellsN true (intV L[0 + i.toNat * 1]?)))))[1]? = true then
 (if isIntV u8 (List.take 16 (List.drop 1 (List.take 17 (List.take 18 (List.drop (0 + i.toNat * 19 + 0) X)))))[2]? = true then
 (if isIntV u8 (List.take 16 (List.drop 1 (List.take 17 (opq cellsN true (intV L[0 + i.toNat * 1]?)))))[2]? = true then
 (if isIntV u8 (List.take 16 (List.drop 1 (List.take 17 (List.take 18 (List.drop (0 + i.toNat * 19 + 0) X)))))[3]? = true then
 (if isIntV u8 (List.take 16 (List.drop 1 (List.take 17 (opq cellsN true (intV L[0 + i.toNat * 1]?)))))[3]? = true then
 (if isIntV u8 (List.take 16 (List.drop 1 (List.take 17 (List.take 18 (List.drop (0 + i.toNat * 19 + 0) X)))))[4]? = true then
 (if isIntV u8 (List.take 16 (List.drop 1 (List.take 17 (opq cellsN true (intV L[0 + i.toNat * 1]?)))))[4]? = true then
 (if isIntV u8 (List.take 16 (List.drop 1 (List.take 17 (List.take 18 (List.drop (0 + i.toNat * 19 + 0) X)))))[5]? = true then
 (if isIntV u8 (List.take 16 (List.drop 1 (List.take 17 (opq cellsN true (intV L[0 + i.toNat * 1]?)))))[5]? = true then
 (if isIntV u8 (List.take 16 (List.drop 1 (List.take 17 (List.take 18 (List.drop (0 + i.toNat * 19 + 0) X)))))[6]? = true then
 (if isIntV u8 (List.take 16 (List.drop 1 (List.take 17 (opq cellsN true (intV L[0 + i.toNat * 1]?)))))[6]? = true then
 (if isIntV u8 (List.take 16 (List.drop 1 (List.take 17 (List.take 18 (List.drop (0 + i.toNat * 19 + 0) X)))))[7]? = true then
 (if isIntV u8 (List.take 16 (List.drop 1 (List.take 17 (opq cellsN true (intV L[0 + i.toNat * 1]?)))))[7]? = true then
 (if isIntV u8 (List.take 16 (List.drop 1 (List.take 17 (List.take 18 (List.drop (0 + i.toNat * 19 + 0) X)))))[8]? = true then
 (if isIntV u8 (List.take 16 (List.drop 1 (List.take 17 (opq cellsN true (intV L[0 + i.toNat * 1]?)))))[8]? = true then
 (if isIntV u8 (List.take 16 (List.drop 1 (List.take 17 (List.take 18 (List.drop (0 + i.toNat * 19 + 0) X)))))[9]? = true then
 (if isIntV u8 (List.take 16 (List.drop 1 (List.take 17 (opq cellsN true (intV L[0 + i.toNat * 1]?)))))[9]? = true then
 (if isIntV u8 (List.take 16 (List.drop 1 (List.take 17 (List.take 18 (List.drop (0 + i.toNat * 19 + 0) X)))))[10]? = true then
 (if isIntV u8 (List.take 16 (List.drop 1 (List.take 17 (opq cellsN true (intV L[0 + i.toNat * 1]?)))))[10]? = true then
 (if isIntV u8 (List.take 16 (List.drop 1 (List.take 17 (List.take 18 (List.drop (0 + i.toNat * 19 + 0) X)))))[11]? = true then
 (if isIntV u8 (List.take 16 (List.drop 1 (List.take 17 (opq cellsN true (intV L[0 + i.toNat * 1]?)))))[11]? = true then
 (if isIntV u8 (List.take 16 (List.drop 1 (List.take 17 (List.take 18 (List.drop (0 + i.toNat * 19 + 0) X)))))[12]? = true then
 (if isIntV u8 (List.take 16 (List.drop 1 (List.take 17 (opq cellsN true (intV L[0 + i.toNat * 1]?)))))[12]? = true then
 (if isIntV u8 (List.take 16 (List.drop 1 (List.take 17 (List.take 18 (List.drop (0 + i.toNat * 19 + 0) X)))))[13]? = true then
 (if isIntV u8 (List.take 16 (List.drop 1 (List.take 17 (opq cellsN true (intV L[0 + i.toNat * 1]?)))))[13]? = true then
 (if isIntV u8 (List.take 16 (List.drop 1 (List.take 17 (List.take 18 (List.drop (0 + i.toNat * 19 + 0) X)))))[14]? = true then
 (if isIntV u8 (List.take 16 (List.drop 1 (List.take 17 (opq cellsN true (intV L[0 + i.toNat * 1]?)))))[14]? = true then
 (if isIntV u8 (List.take 16 (List.drop 1 (List.take 17 (List.take 18 (List.drop (0 + i.toNat * 19 + 0) X)))))[15]? = true then
 (if isIntV u8 (List.take 16 (List.drop 1 (List.take 17 (opq cellsN true (intV L[0 + i.toNat * 1]?)))))[15]? = true then
 (if isIntV u16 (List.take 18 (List.drop (0 + i.toNat * 19 + 0) X))[17]? = true then
 (if isIntV u16 (opq cellsN true (intV L[0 + i.toNat * 1]?))[17]? = true then
 (if (!(boolV (List.take 17 (List.take 18 (List.drop (0 + i.toNat * 19 + 0) X)))[0]? == boolV (List.take 17 (opq cellsN true (intV L[0 + i.toNat * 1]?)))[0]? && (intV (List.take 16 (List.drop 1 (List.take 17 (List.take 18 (List.drop (0 + i.toNat * 19 + 0) X)))))[0]? == intV (List.take 16 (List.drop 1 (List.take 17 (opq cellsN true (intV L[0 + i.toNat * 1]?)))))[0]? && (intV (List.take 16 (List.drop 1 (List.take 17 (List.take 18 (List.drop (0 + i.toNat * 19 + 0) X)))))[1]? == intV (List.take 16 (List.drop 1 (List.take 17 (opq cellsN true (intV L[0 + i.toNat * 1]?)))))[1]? && (intV (List.take 16 (List.drop 1 (List.take 17 (List.take 18 (List.drop (0 + i.toNat * 19 + 0) X)))))[2]? == intV (List.take 16 (List.drop 1 (List.take 17 (opq cellsN true (intV L[0 + i.toNat * 1]?)))))[2]? && (intV (List.take 16 (List.drop 1 (List.take 17 (List.take 18 (List.drop (0 + i.toNat * 19 + 0) X)))))[3]? == intV (List.take 16 (List.drop 1 (List.take 17 (opq cellsN true (intV L[0 + i.toNat * 1]?)))))[3]? && (intV (List.take 16 (List.drop 1 (List.take 17 (List.take 18 (List.drop (0 + i.toNat * 19 + 0) X)))))[4]? == intV (List.take 16 (List.drop 1 (List.take 17 (opq cellsN true (intV L[0 + i.toNat * 1]?)))))[4]? && (intV (List.take 16 (List.drop 1 (List.take 17 (List.take 18 (List.drop (0 + i.toNat * 19 + 0) X)))))[5]? == intV (List.take 16 (List.drop 1 (List.take 17 (opq cellsN true (intV L[0 + i.toNat * 1]?)))))[5]? && (intV (List.take 16 (List.drop 1 (List.take 17 (List.take 18 (List.drop (0 + i.toNat * 19 + 0) X)))))[6]? == intV (List.take 16 (List.drop 1 (List.take 17 (opq cellsN true (intV L[0 + i.toNat * 1]?)))))[6]? && (intV (List.take 16 (List.drop 1 (List.take 17 (List.take 18 (List.drop (0 + i.toNat * 19 + 0) X)))))[7]? == intV (List.take 16 (List.drop 1 (List.take 17 (opq cellsN true (intV L[0 + i.toNat * 1]?)))))[7]? && (intV (List.take 16 (List.drop 1 (List.take 17 (List.take 18 (List.drop (0 + i.toNat * 19 + 0) X)))))[8]? == intV (List.take 16 (List.drop 1 (List.take 17 (opq cellsN true (intV L[0 + i.toNat * 1]?)))))[8]? && (intV (List.take 16 (List.drop 1 (List.take 17 (List.take 18 (List.drop (0 + i.toNat * 19 + 0) X)))))[9]? == intV (List.take 16 (List.drop 1 (List.take 17 (opq cellsN true (intV L[0 + i.toNat * 1]?)))))[9]? && (intV (List.take 16 (List.drop 1 (List.take 17 (List.take 18 (List.drop (0 + i.toNat * 19 + 0) X)))))[10]? == intV (List.take 16 (List.drop 1 (List.take 17 (opq cellsN true (intV L[0 + i.toNat * 1]?)))))[10]? && (intV (List.take 16 (List.drop 1 (List.take 17 (List.take 18 (List.drop (0 + i.toNat * 19 + 0) X)))))[11]? == intV (List.take 16 (List.drop 1 (List.take 17 (opq cellsN true (intV L[0 + i.toNat * 1]?)))))[11]? && (intV (List.take 16 (List.drop 1 (List.take 17 (List.take 18 (List.drop (0 + i.toNat * 19 + 0) X)))))[12]? == intV (List.take 16 (List.drop 1 (List.take 17 (opq cellsN true (intV L[0 + i.toNat * 1]?)))))[12]? && (intV (List.take 16 (List.drop 1 (List.take 17 (List.take 18 (List.drop (0 + i.toNat * 19 + 0) X)))))[13]? == intV (List.take 16 (List.drop 1 (List.take 17 (opq cellsN true (intV L[0 + i.toNat * 1]?)))))[13]? && (intV (List.take 16 (List.drop 1 (List.take 17 (List.take 18 (List.drop (0 + i.toNat * 19 + 0) X)))))[14]? == intV (List.take 16 (List.drop 1 (List.take 17 (opq cellsN true (intV L[0 + i.toNat * 1]?)))))[14]? && (intV (List.take 16 (List.drop 1 (List.take 17 (List.take 18 (List.drop (0 + i.toNat * 19 + 0) X)))))[15]? == intV (List.take 16 (List.drop 1 (List.take 17 (opq cellsN true (intV L[0 + i.toNat * 1]?)))))[15]? && true))))))))))))))) && true) && (intV (List.take 18 (List.drop (0 + i.toNat * 19 + 0) X))[17]? == intV (opq cellsN true (intV L[0 + i.toNat * 1]?))[17]? && true))) = true then
 none
 else (if 0 ≤ i ∧ i < (a : Int) then
 (if isIntV i64 X[0 + i.toNat * 19 + 18]? = true then
 (if 0 ≤ i ∧ i < (a : Int) then
 (if 0 + i.toNat * 19 + 0 + 18 ≤ X.length then
 (if cdec (3 ≠ 2 ∧ 3 ≠ 4 ∧ 2 ≠ 4 ∧ TelOk (unS 3 es c z O) (dipOf (List.take 18 (List.drop (0 + i.toNat * 19 + 0) X))) 3 es c k z O (List.take 18 (List.drop (0 + i.toNat * 19 + 0) X))) = true then
 (if (intV X[0 + i.toNat * 19 + 18]? != opq (cntS (unS 3 es c z O) (dipOf (List.take 18 (List.drop (0 + i.toNat * 19 + 0) X))))) = true then
 none
 else (if 0 ≤ i ∧ i < (a : Int) then
 (if isIntV i64 X[0 + i.toNat * 19 + 18]? = true then
 (if decide (intV X[0 + i.toNat * 19 + 18]? < 1) = true then
 none
 else (if decide (i < (b : Int)) = false then
 (if 0 + i.toNat * 19 + 0 + 18 ≤ X.length then
 (if (AV.agg (List.take 18 (List.drop (0 + i.toNat * 19 + 0) X))).beq (AV.agg (List.take 18 (List.drop (0 + i.toNat * 19 + 0) X))) = true then
 (if isIntV i64 X[0 + i.toNat * 19 + 18]? = true then
 (if (int i64 (intV X[0 + i.toNat * 19 + 18]?)).beq (int i64 (intV X[0 + i.toNat * 19 + 18]?)) = true then
 some ((AEx.norm, [AV.ptr (some (3, 0)), AV.sl (some (5, 0)) q 0 false, AV.sl (some (6, 0)) a 0 false, AV.sl (some (7, 0)) b 0 false, int i64 (i64.wrap (i + 1))], (hHO3f0 C E es c k z O L X Y q a b i)))
 else none) else none) else none) else none) else none))
 else none) else none))
 else none) else none) else none) else none) else none))
 else none) else none) else none) else none) else none) else none) else none) else none) else none) else none) else none) else none) else none) else none) else none) else none) else none) else none) else none) else none) else none) else none) else none) else none) else none) else none) else none) else none) else none) else none) else none) else none) else none) else none) else none) else none) else none) else none) else none) else none) else none) else none) else none) else none) else none) := by
  kernel_rfl

noncomputable def hHO3s0 (C E : List AV) (es : List (AV × AV × Nat)) (c k z : Nat) (O L X Y : List AV) (q a b : Nat) (i : Int) : AHeap := [ABlk.cells C 1 Md.far none, ABlk.cells E 1 Md.far none, ABlk.mp es c true, cells [int i64 3, AV.map (some 2), AV.sl (some (4, 0)) k z false] 3 Md.own none, ABlk.cells O 18 Md.own none, ABlk.cells L 1 Md.own none, ABlk.cells X 19 Md.own none, ABlk.cells Y 19 Md.own none]
theorem nfHO3s (C E : List AV) (es : List (AV × AV × Nat)) (c k z : Nat) (O L X Y : List AV) (q a b : Nat) (i : Int) :
 qround Try.prog tHO 100 4 [(127, .bool false)] noT HO3 mHO3 (vHO3 q a b i) (hHO3 C E es c k z O L X Y) =
 (if decide (i < (q : Int)) = false then
 some ((AEx.exit 4, [AV.ptr (some (3, 0)), AV.sl (some (5, 0)) q 0 false, AV.sl (some (6, 0)) a 0 false, AV.sl (some (7, 0)) b 0 false, int i64 i], (hHO3s0 C E es c k z O L X Y q a b i)))
 else none) := by
  kernel_rfl

noncomputable def hHOl0 (mo : Int) (n m : Nat) (C E : List AV) : AHeap := [ABlk.cells C 1 Md.far none, ABlk.cells E 1 Md.far none]
theorem nfHOl {R : Type} (mo : Int) (n m : Nat) (C E : List AV) (K : AV → AHeap → Option R) :
 qrun Try.prog tHO 100 4 [(35, .bool true)] [] 6 [.sl (some (0, 0)) n 0 false, .sl (some (1, 0)) m 0 false, .int .i64 mo] [.cells C 1 .far none, .cells E 1 .far none] K =
 (if decide ((n : Int) > 50) = true then
 K (AV.bool true) ((hHOl0 mo n m C E))
 else (if decide ((m : Int) < (n : Int)) = true then
 K (AV.bool true) ((hHOl0 mo n m C E))
 else (if decide ((m : Int) > 60) = true then
 K (AV.bool true) ((hHOl0 mo n m C E))
 else none))) := by
  kernel_rfl

noncomputable def hHOm0 (q1 q2 : Prop) (mo : Int) (C E : List AV) (es : List (AV × AV × Nat)) (c k z : Nat) (O L X Y : List AV) (n m q a b : Nat) : AHeap := [ABlk.cells C 1 Md.far none, ABlk.cells E 1 Md.far none, ABlk.mp [] 0 false, cells [int i64 3, AV.map (some 2), AV.sl none 0 0 true] 3 Md.own none]
noncomputable def hHOm1 (q1 q2 : Prop) (mo : Int) (C E : List AV) (es : List (AV × AV × Nat)) (c k z : Nat) (O L X Y : List AV) (n m q a b : Nat) : AHeap := [ABlk.cells C 1 Md.far none, ABlk.cells E 1 Md.far none, ABlk.mp es c true, cells [int i64 3, AV.map (some 2), AV.sl (some (4, 0)) k z false] 3 Md.own none, ABlk.cells O 18 Md.own none, ABlk.cells L 1 Md.own none, cells (opq (itI (unS 3 es c z O) (List.take (cntA (unS 3 es c z O).l.length (-1)) (unS 3 es c z O).l))) 19 Md.own none, cells (opq (itI (unS 3 es c z O) (List.take (cntA (unS 3 es c z O).l.length (mo % 8)) (unS 3 es c z O).l))) 19 Md.own none]
noncomputable def hHOm2 (q1 q2 : Prop) (mo : Int) (C E : List AV) (es : List (AV × AV × Nat)) (c k z : Nat) (O L X Y : List AV) (n m q a b : Nat) : AHeap := [ABlk.cells C 1 Md.far none, ABlk.cells E 1 Md.far none, ABlk.mp es c true, cells [int i64 3, AV.map (some 2), AV.sl (some (4, 0)) k z false] 3 Md.own none, ABlk.cells O 18 Md.own none, ABlk.cells L 1 Md.own none, ABlk.cells X 19 Md.own none, ABlk.cells Y 19 Md.own none]
theorem nfHOm {R : Type} (q1 q2 : Prop) (mo : Int) (C E : List AV) (es : List (AV × AV × Nat)) (c k z : Nat) (O L X Y : List AV) (n m q a b : Nat) (K : AV → AHeap → Option R) :
 qrun Try.prog tHO 100 4 [(35, .bool false), (46, .bool false), (123, .bool false)] [(8, fixC q1 mHO1 (vHO1z mo n m 0) (hHOz C E) (.exit 0) (vHO1 mo n m q n) (hHO C E es c k z O L)), (31, fixC q2 mHO3 (vHO3 q a b 0) (hHO3 C E es c k z O L X Y) (.exit 4) (vHO3 q a b q) (hHO3 C E es c k z O L X Y))] 6 [.sl (some (0, 0)) n 0 false, .sl (some (1, 0)) m 0 false, .int .i64 mo] [.cells C 1 .far none, .cells E 1 .far none] K =
 (if decide ((n : Int) > 50) = true then
 none
 else (if decide ((m : Int) < (n : Int)) = true then
 none
 else (if decide ((m : Int) > 60) = false then
 (if cdec (q1 ∧ [AV.sl (some (0, 0)) n 0 false, AV.sl (some (1, 0)) m 0 false, int i64 mo, AV.ptr (some (3, 0)), AV.sl none 0 0 true, int i64 0] = [AV.sl (some (0, 0)) n 0 false, AV.sl (some (1, 0)) m 0 false, int i64 mo, AV.ptr (some (3, 0)), AV.sl none 0 0 true, int i64 0] ∧ (hHOm0 q1 q2 mo C E es c k z O L X Y n m q a b) = (hHOm0 q1 q2 mo C E es c k z O L X Y n m q a b)) = true then
 (if cdec (3 ≠ 2 ∧ 3 ≠ 4 ∧ 2 ≠ 4 ∧ AllOk (unS 3 es c z O) (-1) 3 es c k z O) = true then
 (if cdec (3 ≠ 2 ∧ 3 ≠ 4 ∧ 2 ≠ 4 ∧ AllOk (unS 3 es c z O) (mo % 8) 3 es c k z O) = true then
 (if ((((opq (cntA (unS 3 es c z O).l.length (-1))) : Nat) : Int) != (q : Int)) = true then
 none
 else (if ((((opq (cntA (unS 3 es c z O).l.length (mo % 8))) : Nat) : Int) != if false = true then if (q : Int) > mo % 8 then (q : Int) else mo % 8 else if (q : Int) < mo % 8 then (q : Int) else mo % 8) = false then
 (if cdec (q2 ∧ [AV.ptr (some (3, 0)), AV.sl (some (5, 0)) q 0 false, AV.sl (some (6, 0)) (opq (cntA (unS 3 es c z O).l.length (-1))) 0 false, AV.sl (some (7, 0)) (opq (cntA (unS 3 es c z O).l.length (mo % 8))) 0 false, int i64 0] = [AV.ptr (some (3, 0)), AV.sl (some (5, 0)) q 0 false, AV.sl (some (6, 0)) a 0 false, AV.sl (some (7, 0)) b 0 false, int i64 0] ∧ (hHOm1 q1 q2 mo C E es c k z O L X Y n m q a b) = (hHOm2 q1 q2 mo C E es c k z O L X Y n m q a b)) = true then
 K (AV.bool true) ((hHOm2 q1 q2 mo C E es c k z O L X Y n m q a b))
 else none) else none))
 else none) else none) else none) else none))) := by
  kernel_rfl


end Go.Proofs.Ytpghomcohejejaa.L
