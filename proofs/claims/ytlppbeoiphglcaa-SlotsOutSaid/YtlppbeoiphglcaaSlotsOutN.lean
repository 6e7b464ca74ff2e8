/- SlotsOut: its rows. -/
import Derived.Test.YtlppbeoiphglcaaShE
import Derived.Test.YtlppbeoiphglcaaAwake17
set_option autoImplicit false
set_option maxRecDepth 100000
set_option linter.unusedVariables false
set_option linter.unusedSimpArgs false
namespace Go.Proofs.Ytlppbeoiphglcaa.L
open Go Go.Abs
open Go.IntKind
open Go.Abs.AV (int)
open Go.Abs.ABlk (cells)

noncomputable abbrev SO1 := loopIn (bodyOf Try.prog 7) 0
noncomputable abbrev SO2 := loopIn (bodyOf Try.prog 7) 1
def mSO1 : List Bool := List.replicate 1 true ++ List.replicate 1 false ++ List.replicate 1 true ++ List.replicate 4 false ++ List.replicate 1 true ++ List.replicate 2 false ++ List.replicate 3 true ++ List.replicate 1 false ++ List.replicate 1 true ++ List.replicate 165 false
def mSO2 : List Bool := List.replicate 1 true ++ List.replicate 1 false ++ List.replicate 1 true ++ List.replicate 4 false ++ List.replicate 1 true ++ List.replicate 2 false ++ List.replicate 3 true ++ List.replicate 2 false ++ List.replicate 1 true ++ List.replicate 1 false ++ List.replicate 1 true ++ List.replicate 162 false
noncomputable def tSO (P : PL) (X Y Z : List DipC) (k x y z : Nat) (e f g : Int) : Tbl := [(20, entF (eRel SvR [(1, .sl (some (1, 0)) k 0 false, [.cells (itP P) 19 .own none])])), (22, entF eRound), (10, entF (eRel FlR [(2, .tup [.sl (some (2, 0)) x 0 false, .int .i64 e], [.cells (dipsC X) 18 .own none]), (6, .tup [.sl (some (6, 0)) y 0 false, .int .i64 f], [.cells (dipsC Y) 18 .own none]), (11, .tup [.sl (some (11, 0)) z 0 false, .int .i64 g], [.cells (dipsC Z) 18 .own none])])), (18, entF (eRelI MvR)), (21, entF (eRelI CnR)), (9, entF eAwake)]
noncomputable abbrev tSOL : Tbl := tSO [] [] [] [] 0 0 0 0 0 0 0
theorem tSOOk (P : PL) (X Y Z : List DipC) (k x y z : Nat) (e f g : Int) : ∀ a E, (tSO P X Y Z k x y z e f g).find a = some E → SoundE Try.prog a E := find_cons (sSv _) (find_cons sRound (find_cons (sFl _) (find_cons sMvI (find_cons sCnI (find_cons sAwake (find_nil _))))))
def vSO1 (k n : Int) (m : Nat) (r : Int) (o y : Nat) (j : Int) : List AV := [.int .i64 k, .int .i64 n, .sl (some (1, 0)) m 0 false, .int .i64 r, .sl (some (5, 0)) o 0 false, .sl (some (6, 0)) y 0 false, .int .i64 j]
def vSO2 (k n : Int) (m : Nat) (r : Int) (o y z : Nat) (j : Int) : List AV := [.int .i64 k, .int .i64 n, .sl (some (1, 0)) m 0 false, .int .i64 r, .sl (some (5, 0)) o 0 false, .sl (some (6, 0)) y 0 false, .sl (some (11, 0)) z 0 false, .int .i64 j]
def hSO1 (B0 : ABlk) (C : List AV) (B2 B3 B4 : ABlk) (O Y : List AV) : AHeap := [B0, .cells C 19 .own none, B2, B3, B4, .cells O 19 .own (some 4), .cells Y 18 .own none]
def hSO2 (B0 : ABlk) (C : List AV) (B2 B3 B4 : ABlk) (O Y : List AV) (B7 B8 B9 B10 : ABlk) (Z : List AV) : AHeap := [B0, .cells C 19 .own none, B2, B3, B4, .cells O 19 .own (some 4), .cells Y 18 .own none, B7, B8, B9, B10, .cells Z 18 .own none]

noncomputable def hSO1a0 (B0 : ABlk) (C : List AV) (B2 B3 B4 : ABlk) (O Y : List AV) (k n : Int) (m : Nat) (r : Int) (o y : Nat) (j : Int) : AHeap := [B0, ABlk.cells C 19 Md.own none, B2, B3, B4, ABlk.cells O 19 Md.own (some 4), ABlk.cells Y 18 Md.own none]
theorem nfSO1a (B0 : ABlk) (C : List AV) (B2 B3 B4 : ABlk) (O Y : List AV) (k n : Int) (m : Nat) (r : Int) (o y : Nat) (j : Int) :
 qround Try.prog tSOL 100 4 [(82, .bool true), (94, .bool false)] noT SO1 mSO1 (vSO1 k n m r o y j) (hSO1 B0 C B2 B3 B4 O Y) =
 (if decide (j < n) = true then
 (if 0 ≤ j ∧ j < (y : Int) then
 (if 0 + j.toNat * 18 + 18 ≤ Y.length then
 (if 0 ≤ r ∧ r < (m : Int) then
 (if 0 + r.toNat * 19 + 0 + 18 ≤ C.length then
 (if 17 ≤ (List.take 18 (List.drop (0 + j.toNat * 18) Y)).length then
 (if 17 ≤ (List.take 18 (List.drop (0 + r.toNat * 19 + 0) C)).length then
 (if isBoolV (List.take 17 (List.take 18 (List.drop (0 + j.toNat * 18) Y)))[0]? = true then
 (if isBoolV (List.take 17 (List.take 18 (List.drop (0 + r.toNat * 19 + 0) C)))[0]? = true then
 (if 17 ≤ (List.take 17 (List.take 18 (List.drop (0 + j.toNat * 18) Y))).length then
 (if 17 ≤ (List.take 17 (List.take 18 (List.drop (0 + r.toNat * 19 + 0) C))).length then
 (if isIntV u8 (List.take 16 (List.drop 1 (List.take 17 (List.take 18 (List.drop (0 + j.toNat * 18) Y)))))[0]? = true then
 (if isIntV u8 (List.take 16 (List.drop 1 (List.take 17 (List.take 18 (List.drop (0 + r.toNat * 19 + 0) C)))))[0]? = true then
 (if isIntV u8 (List.take 16 (List.drop 1 (List.take 17 (List.take 18 (List.drop (0 + j.toNat * 18) Y)))))[1]? = true then
 (if isIntV u8 (List.take 16 (List.drop 1 (List.take 17 (List.take 18 (List.drop (0 + r.toNat * 19 + 0) C)))))[1]? = true then
 (if isIntV u8 (List.take 16 (List.drop 1 (List.take 17 (List.take 18 (List.drop (0 + j.toNat * 18) Y)))))[2]? = true then
 (if isIntV u8 (List.take 16 (List.drop 1 (List.take 17 (List.take 18 (List.drop (0 + r.toNat * 19 + 0) C)))))[2]? = true then
 (if isIntV u8 (List.take 16 (List.drop 1 (List.take 17 (List.take 18 (List.drop (0 + j.toNat * 18) Y)))))[3]? = true then
 (if isIntV u8 (List.take 16 (List.drop 1 (List.take 17 (List.take 18 (List.drop (0 + r.toNat * 19 + 0) C)))))[3]? = true then
 (if isIntV u8 (List.take 16 (List.drop 1 (List.take 17 (List.take 18 (List.drop (0 + j.toNat * 18) Y)))))[4]? = true then
 (if isIntV u8 (List.take 16 (List.drop 1 (List.take 17 (List.take 18 (List.drop (0 + r.toNat * 19 + 0) C)))))[4]? = true then
 (if isIntV u8 (List.take 16 (List.drop 1 (List.take 17 (List.take 18 (List.drop (0 + j.toNat * 18) Y)))))[5]? = true then
 (if isIntV u8 (List.take 16 (List.drop 1 (List.take 17 (List.take 18 (List.drop (0 + r.toNat * 19 + 0) C)))))[5]? = true then
 (if isIntV u8 (List.take 16 (List.drop 1 (List.take 17 (List.take 18 (List.drop (0 + j.toNat * 18) Y)))))[6]? = true then
 (if isIntV u8 (List.take 16 (List.drop 1 (List.take 17 (List.take 18 (List.drop (0 + r.toNat * 19 + 0) C)))))[6]? = true then
 (if isIntV u8 (List.take 16 (List.drop 1 (List.take 17 (List.take 18 (List.drop (0 + j.toNat * 18) Y)))))[7]? = true then
 (if isIntV u8 (List.take 16 (List.drop 1 (List.take 17 (List.take 18 (List.drop (0 + r.toNat * 19 + 0) C)))))[7]? = true then
 (if isIntV u8 (List.take 16 (List.drop 1 (List.take 17 (List.take 18 (List.drop (0 + j.toNat * 18) Y)))))[8]? = true then
 (if isIntV u8 (List.take 16 (List.drop 1 (List.take 17 (List.take 18 (List.drop (0 + r.toNat * 19 + 0) C)))))[8]? = true then
 (if isIntV u8 (List.take 16 (List.drop 1 (List.take 17 (List.take 18 (List.drop (0 + j.toNat * 18) Y)))))[9]? = true then
 (if isIntV u8 (List.take 16 (List.drop 1 (List.take 17 (List.take 18 (List.drop (0 + r.toNat * 19 + 0) C)))))[9]? = true then
 (if isIntV u8 (List.take 16 (List.drop 1 (List.take 17 (List.take 18 (List.drop (0 + j.toNat * 18) Y)))))[10]? = true then
 (if isIntV u8 (List.take 16 (List.drop 1 (List.take 17 (List.take 18 (List.drop (0 + r.toNat * 19 + 0) C)))))[10]? = true then
 (if isIntV u8 (List.take 16 (List.drop 1 (List.take 17 (List.take 18 (List.drop (0 + j.toNat * 18) Y)))))[11]? = true then
 (if isIntV u8 (List.take 16 (List.drop 1 (List.take 17 (List.take 18 (List.drop (0 + r.toNat * 19 + 0) C)))))[11]? = true then
 (if isIntV u8 (List.take 16 (List.drop 1 (List.take 17 (List.take 18 (List.drop (0 + j.toNat * 18) Y)))))[12]? = true then
 (if isIntV u8 (List.take 16 (List.drop 1 (List.take 17 (List.take 18 (List.drop (0 + r.toNat * 19 + 0) C)))))[12]? = true then
 (if isIntV u8 (List.take 16 (List.drop 1 (List.take 17 (List.take 18 (List.drop (0 + j.toNat * 18) Y)))))[13]? = true then
 (if isIntV u8 (List.take 16 (List.drop 1 (List.take 17 (List.take 18 (List.drop (0 + r.toNat * 19 + 0) C)))))[13]? = true then
 (if isIntV u8 (List.take 16 (List.drop 1 (List.take 17 (List.take 18 (List.drop (0 + j.toNat * 18) Y)))))[14]? = true then
 (if isIntV u8 (List.take 16 (List.drop 1 (List.take 17 (List.take 18 (List.drop (0 + r.toNat * 19 + 0) C)))))[14]? = true then
 (if isIntV u8 (List.take 16 (List.drop 1 (List.take 17 (List.take 18 (List.drop (0 + j.toNat * 18) Y)))))[15]? = true then
 (if isIntV u8 (List.take 16 (List.drop 1 (List.take 17 (List.take 18 (List.drop (0 + r.toNat * 19 + 0) C)))))[15]? = true then
 (if isIntV u16 (List.take 18 (List.drop (0 + j.toNat * 18) Y))[17]? = true then
 (if isIntV u16 (List.take 18 (List.drop (0 + r.toNat * 19 + 0) C))[17]? = true then
 (if (boolV (List.take 17 (List.take 18 (List.drop (0 + j.toNat * 18) Y)))[0]? == boolV (List.take 17 (List.take 18 (List.drop (0 + r.toNat * 19 + 0) C)))[0]? && (intV (List.take 16 (List.drop 1 (List.take 17 (List.take 18 (List.drop (0 + j.toNat * 18) Y)))))[0]? == intV (List.take 16 (List.drop 1 (List.take 17 (List.take 18 (List.drop (0 + r.toNat * 19 + 0) C)))))[0]? && (intV (List.take 16 (List.drop 1 (List.take 17 (List.take 18 (List.drop (0 + j.toNat * 18) Y)))))[1]? == intV (List.take 16 (List.drop 1 (List.take 17 (List.take 18 (List.drop (0 + r.toNat * 19 + 0) C)))))[1]? && (intV (List.take 16 (List.drop 1 (List.take 17 (List.take 18 (List.drop (0 + j.toNat * 18) Y)))))[2]? == intV (List.take 16 (List.drop 1 (List.take 17 (List.take 18 (List.drop (0 + r.toNat * 19 + 0) C)))))[2]? && (intV (List.take 16 (List.drop 1 (List.take 17 (List.take 18 (List.drop (0 + j.toNat * 18) Y)))))[3]? == intV (List.take 16 (List.drop 1 (List.take 17 (List.take 18 (List.drop (0 + r.toNat * 19 + 0) C)))))[3]? && (intV (List.take 16 (List.drop 1 (List.take 17 (List.take 18 (List.drop (0 + j.toNat * 18) Y)))))[4]? == intV (List.take 16 (List.drop 1 (List.take 17 (List.take 18 (List.drop (0 + r.toNat * 19 + 0) C)))))[4]? && (intV (List.take 16 (List.drop 1 (List.take 17 (List.take 18 (List.drop (0 + j.toNat * 18) Y)))))[5]? == intV (List.take 16 (List.drop 1 (List.take 17 (List.take 18 (List.drop (0 + r.toNat * 19 + 0) C)))))[5]? && (intV (List.take 16 (List.drop 1 (List.take 17 (List.take 18 (List.drop (0 + j.toNat * 18) Y)))))[6]? == intV (List.take 16 (List.drop 1 (List.take 17 (List.take 18 (List.drop (0 + r.toNat * 19 + 0) C)))))[6]? && (intV (List.take 16 (List.drop 1 (List.take 17 (List.take 18 (List.drop (0 + j.toNat * 18) Y)))))[7]? == intV (List.take 16 (List.drop 1 (List.take 17 (List.take 18 (List.drop (0 + r.toNat * 19 + 0) C)))))[7]? && (intV (List.take 16 (List.drop 1 (List.take 17 (List.take 18 (List.drop (0 + j.toNat * 18) Y)))))[8]? == intV (List.take 16 (List.drop 1 (List.take 17 (List.take 18 (List.drop (0 + r.toNat * 19 + 0) C)))))[8]? && (intV (List.take 16 (List.drop 1 (List.take 17 (List.take 18 (List.drop (0 + j.toNat * 18) Y)))))[9]? == intV (List.take 16 (List.drop 1 (List.take 17 (List.take 18 (List.drop (0 + r.toNat * 19 + 0) C)))))[9]? && (intV (List.take 16 (List.drop 1 (List.take 17 (List.take 18 (List.drop (0 + j.toNat * 18) Y)))))[10]? == intV (List.take 16 (List.drop 1 (List.take 17 (List.take 18 (List.drop (0 + r.toNat * 19 + 0) C)))))[10]? && (intV (List.take 16 (List.drop 1 (List.take 17 (List.take 18 (List.drop (0 + j.toNat * 18) Y)))))[11]? == intV (List.take 16 (List.drop 1 (List.take 17 (List.take 18 (List.drop (0 + r.toNat * 19 + 0) C)))))[11]? && (intV (List.take 16 (List.drop 1 (List.take 17 (List.take 18 (List.drop (0 + j.toNat * 18) Y)))))[12]? == intV (List.take 16 (List.drop 1 (List.take 17 (List.take 18 (List.drop (0 + r.toNat * 19 + 0) C)))))[12]? && (intV (List.take 16 (List.drop 1 (List.take 17 (List.take 18 (List.drop (0 + j.toNat * 18) Y)))))[13]? == intV (List.take 16 (List.drop 1 (List.take 17 (List.take 18 (List.drop (0 + r.toNat * 19 + 0) C)))))[13]? && (intV (List.take 16 (List.drop 1 (List.take 17 (List.take 18 (List.drop (0 + j.toNat * 18) Y)))))[14]? == intV (List.take 16 (List.drop 1 (List.take 17 (List.take 18 (List.drop (0 + r.toNat * 19 + 0) C)))))[14]? && (intV (List.take 16 (List.drop 1 (List.take 17 (List.take 18 (List.drop (0 + j.toNat * 18) Y)))))[15]? == intV (List.take 16 (List.drop 1 (List.take 17 (List.take 18 (List.drop (0 + r.toNat * 19 + 0) C)))))[15]? && true))))))))))))))) && true) && (intV (List.take 18 (List.drop (0 + j.toNat * 18) Y))[17]? == intV (List.take 18 (List.drop (0 + r.toNat * 19 + 0) C))[17]? && true)) = false then
 some ((AEx.norm, [int i64 k, int i64 n, AV.sl (some (1, 0)) m 0 false, int i64 r, AV.sl (some (5, 0)) o 0 false, AV.sl (some (6, 0)) y 0 false, int i64 (i64.wrap (j + 1))], (hSO1a0 B0 C B2 B3 B4 O Y k n m r o y j)))
 else none) else none) else none) else none) else none) else none) else none) else none) else none) else none) else none) else none) else none) else none) else none) else none) else none) else none) else none) else none) else none) else none) else none) else none) else none) else none) else none) else none) else none) else none) else none) else none) else none) else none) else none) else none) else none) else none) else none) else none) else none) else none) else none) else none) else none) else none) := by
  kernel_rfl

noncomputable def hSO1s0 (B0 : ABlk) (C : List AV) (B2 B3 B4 : ABlk) (O Y : List AV) (k n : Int) (m : Nat) (r : Int) (o y : Nat) (j : Int) : AHeap := [B0, ABlk.cells C 19 Md.own none, B2, B3, B4, ABlk.cells O 19 Md.own (some 4), ABlk.cells Y 18 Md.own none]
theorem nfSO1s (B0 : ABlk) (C : List AV) (B2 B3 B4 : ABlk) (O Y : List AV) (k n : Int) (m : Nat) (r : Int) (o y : Nat) (j : Int) :
 qround Try.prog tSOL 100 4 [(82, .bool false)] noT SO1 mSO1 (vSO1 k n m r o y j) (hSO1 B0 C B2 B3 B4 O Y) =
 (if decide (j < n) = false then
 some ((AEx.exit 0, [int i64 k, int i64 n, AV.sl (some (1, 0)) m 0 false, int i64 r, AV.sl (some (5, 0)) o 0 false, AV.sl (some (6, 0)) y 0 false, int i64 j], (hSO1s0 B0 C B2 B3 B4 O Y k n m r o y j)))
 else none) := by
  kernel_rfl

noncomputable def hSO2a0 (B0 : ABlk) (C : List AV) (B2 B3 B4 : ABlk) (O Y : List AV) (B7 B8 B9 B10 : ABlk) (Z : List AV) (k n : Int) (m : Nat) (r : Int) (o y z : Nat) (j : Int) : AHeap := [B0, ABlk.cells C 19 Md.own none, B2, B3, B4, ABlk.cells O 19 Md.own (some 4), ABlk.cells Y 18 Md.own none, B7, B8, B9, B10, ABlk.cells Z 18 Md.own none]
noncomputable def hSO2a1 (B0 : ABlk) (C : List AV) (B2 B3 B4 : ABlk) (O Y : List AV) (B7 B8 B9 B10 : ABlk) (Z : List AV) (k n : Int) (m : Nat) (r : Int) (o y z : Nat) (j : Int) : AHeap := []
theorem nfSO2a (B0 : ABlk) (C : List AV) (B2 B3 B4 : ABlk) (O Y : List AV) (B7 B8 B9 B10 : ABlk) (Z : List AV) (k n : Int) (m : Nat) (r : Int) (o y z : Nat) (j : Int) :
 qround Try.prog tSOL 100 4 [(121, .bool true), (138, .bool false)] noT SO2 mSO2 (vSO2 k n m r o y z j) (hSO2 B0 C B2 B3 B4 O Y B7 B8 B9 B10 Z) =
 (if decide (j < (o : Int)) = true then
 (if 0 ≤ j ∧ j < (o : Int) then
 (if 0 + j.toNat * 19 + 0 + 18 ≤ O.length then
 (if cdec (CnR [AV.sl (some (11, 0)) z 0 false, AV.agg (List.take 18 (List.drop (0 + j.toNat * 19 + 0) O))] (hSO2a0 B0 C B2 B3 B4 O Y B7 B8 B9 B10 Z k n m r o y z j) (int i64 (intC CnR [AV.sl (some (11, 0)) z 0 false, AV.agg (List.take 18 (List.drop (0 + j.toNat * 19 + 0) O))] (hSO2a0 B0 C B2 B3 B4 O Y B7 B8 B9 B10 Z k n m r o y z j))) (hSO2a1 B0 C B2 B3 B4 O Y B7 B8 B9 B10 Z k n m r o y z j)) = true then
 (if 0 ≤ j ∧ j < (o : Int) then
 (if 0 + j.toNat * 19 + 0 + 18 ≤ O.length then
 (if cdec (CnR [AV.sl (some (6, 0)) y 0 false, AV.agg (List.take 18 (List.drop (0 + j.toNat * 19 + 0) O))] (hSO2a0 B0 C B2 B3 B4 O Y B7 B8 B9 B10 Z k n m r o y z j) (int i64 (intC CnR [AV.sl (some (6, 0)) y 0 false, AV.agg (List.take 18 (List.drop (0 + j.toNat * 19 + 0) O))] (hSO2a0 B0 C B2 B3 B4 O Y B7 B8 B9 B10 Z k n m r o y z j))) (hSO2a1 B0 C B2 B3 B4 O Y B7 B8 B9 B10 Z k n m r o y z j)) = true then
 (if decide (intC CnR [AV.sl (some (11, 0)) z 0 false, AV.agg (List.take 18 (List.drop (0 + j.toNat * 19 + 0) O))] (hSO2a0 B0 C B2 B3 B4 O Y B7 B8 B9 B10 Z k n m r o y z j) > intC CnR [AV.sl (some (6, 0)) y 0 false, AV.agg (List.take 18 (List.drop (0 + j.toNat * 19 + 0) O))] (hSO2a0 B0 C B2 B3 B4 O Y B7 B8 B9 B10 Z k n m r o y z j)) = false then
 (if 0 + j.toNat * 19 + 0 + 18 ≤ O.length then
 (if (AV.agg (List.take 18 (List.drop (0 + j.toNat * 19 + 0) O))).beq (AV.agg (List.take 18 (List.drop (0 + j.toNat * 19 + 0) O))) = true then
 some ((AEx.norm, [int i64 k, int i64 n, AV.sl (some (1, 0)) m 0 false, int i64 r, AV.sl (some (5, 0)) o 0 false, AV.sl (some (6, 0)) y 0 false, AV.sl (some (11, 0)) z 0 false, int i64 (i64.wrap (j + 1))], (hSO2a0 B0 C B2 B3 B4 O Y B7 B8 B9 B10 Z k n m r o y z j)))
 else none) else none) else none) else none) else none) else none) else none) else none) else none) else none) := by
  kernel_rfl

noncomputable def hSO2s0 (B0 : ABlk) (C : List AV) (B2 B3 B4 : ABlk) (O Y : List AV) (B7 B8 B9 B10 : ABlk) (Z : List AV) (k n : Int) (m : Nat) (r : Int) (o y z : Nat) (j : Int) : AHeap := [B0, ABlk.cells C 19 Md.own none, B2, B3, B4, ABlk.cells O 19 Md.own (some 4), ABlk.cells Y 18 Md.own none, B7, B8, B9, B10, ABlk.cells Z 18 Md.own none]
theorem nfSO2s (B0 : ABlk) (C : List AV) (B2 B3 B4 : ABlk) (O Y : List AV) (B7 B8 B9 B10 : ABlk) (Z : List AV) (k n : Int) (m : Nat) (r : Int) (o y z : Nat) (j : Int) :
 qround Try.prog tSOL 100 4 [(121, .bool false)] noT SO2 mSO2 (vSO2 k n m r o y z j) (hSO2 B0 C B2 B3 B4 O Y B7 B8 B9 B10 Z) =
 (if decide (j < (o : Int)) = false then
 some ((AEx.exit 2, [int i64 k, int i64 n, AV.sl (some (1, 0)) m 0 false, int i64 r, AV.sl (some (5, 0)) o 0 false, AV.sl (some (6, 0)) y 0 false, AV.sl (some (11, 0)) z 0 false, int i64 j], (hSO2s0 B0 C B2 B3 B4 O Y B7 B8 B9 B10 Z k n m r o y z j)))
 else none) := by
  kernel_rfl

noncomputable def hSOl0 (k o n : Int) : AHeap := []
theorem nfSOl {R : Type} (k o n : Int) (K : AV → AHeap → Option R) :
 qrun Try.prog tSOL 100 4 [(31, .bool true)] [] 7 [.int .i64 k, .int .i64 o, .int .i64 n] [] K =
 (if decide (k < 2) = true then
 K (AV.bool true) ((hSOl0 k o n))
 else (if decide (k > 20) = true then
 K (AV.bool true) ((hSOl0 k o n))
 else (if decide (n < 1) = true then
 K (AV.bool true) ((hSOl0 k o n))
 else (if decide (n > 64) = true then
 K (AV.bool true) ((hSOl0 k o n))
 else none)))) := by
  kernel_rfl

noncomputable def hSOm0 (q1 q2 : Prop) (k : Nat) (ou n : Int) (P : PL) (X Y Z : List DipC) (m x y z o : Nat) (e f g r : Int) (B0 B2 B3 B4 B7 B8 B9 B10 : ABlk) (O : List AV) : AHeap := [cells (zrep ((k : Int)).toNat [int i64 0]) 1 Md.own none]
noncomputable def hSOm1 (q1 q2 : Prop) (k : Nat) (ou n : Int) (P : PL) (X Y Z : List DipC) (m x y z o : Nat) (e f g r : Int) (B0 B2 B3 B4 B7 B8 B9 B10 : ABlk) (O : List AV) : AHeap := [cells (itP P) 19 Md.own none]
noncomputable def hSOm2 (q1 q2 : Prop) (k : Nat) (ou n : Int) (P : PL) (X Y Z : List DipC) (m x y z o : Nat) (e f g r : Int) (B0 B2 B3 B4 B7 B8 B9 B10 : ABlk) (O : List AV) : AHeap := [cells (zrep ((k : Int)).toNat [int i64 0]) 1 Md.own none, cells (itP P) 19 Md.own none]
noncomputable def hSOm3 (q1 q2 : Prop) (k : Nat) (ou n : Int) (P : PL) (X Y Z : List DipC) (m x y z o : Nat) (e f g r : Int) (B0 B2 B3 B4 B7 B8 B9 B10 : ABlk) (O : List AV) : AHeap := [cells (dipsC X) 18 Md.own none]
noncomputable def hSOm4 (q1 q2 : Prop) (k : Nat) (ou n : Int) (P : PL) (X Y Z : List DipC) (m x y z o : Nat) (e f g r : Int) (B0 B2 B3 B4 B7 B8 B9 B10 : ABlk) (O : List AV) : AHeap := [cells (zrep ((k : Int)).toNat [int i64 0]) 1 Md.own none, cells (itP P) 19 Md.own none, cells (dipsC X) 18 Md.own none, ABlk.dead, cells (List.take (((ou % (k : Int)).toNat - 0) * 19) (itP P)) 19 Md.ro none, cells (List.take ((0 + ((ou % (k : Int)).toNat - 0)) * 19) (List.take (((ou % (k : Int)).toNat - 0) * 19) (itP P)) ++ List.take ((m - (i64.wrap (ou % (k : Int) + 1)).toNat) * 19) (List.drop (0 + (i64.wrap (ou % (k : Int) + 1)).toNat * 19) (itP P))) 19 Md.own (some 4)]
noncomputable def hSOm5 (q1 q2 : Prop) (k : Nat) (ou n : Int) (P : PL) (X Y Z : List DipC) (m x y z o : Nat) (e f g r : Int) (B0 B2 B3 B4 B7 B8 B9 B10 : ABlk) (O : List AV) : AHeap := [cells (dipsC Y) 18 Md.own none]
noncomputable def hSOm6 (q1 q2 : Prop) (k : Nat) (ou n : Int) (P : PL) (X Y Z : List DipC) (m x y z o : Nat) (e f g r : Int) (B0 B2 B3 B4 B7 B8 B9 B10 : ABlk) (O : List AV) : AHeap := [cells (zrep ((k : Int)).toNat [int i64 0]) 1 Md.own none, cells (itP P) 19 Md.own none, cells (dipsC X) 18 Md.own none, ABlk.dead, cells (List.take (((ou % (k : Int)).toNat - 0) * 19) (itP P)) 19 Md.ro none, cells (List.take ((0 + ((ou % (k : Int)).toNat - 0)) * 19) (List.take (((ou % (k : Int)).toNat - 0) * 19) (itP P)) ++ List.take ((m - (i64.wrap (ou % (k : Int) + 1)).toNat) * 19) (List.drop (0 + (i64.wrap (ou % (k : Int) + 1)).toNat * 19) (itP P))) 19 Md.own (some 4), cells (dipsC Y) 18 Md.own none]
noncomputable def hSOm7 (q1 q2 : Prop) (k : Nat) (ou n : Int) (P : PL) (X Y Z : List DipC) (m x y z o : Nat) (e f g r : Int) (B0 B2 B3 B4 B7 B8 B9 B10 : ABlk) (O : List AV) : AHeap := [B0, cells (itP P) 19 Md.own none, B2, B3, B4, ABlk.cells O 19 Md.own (some 4), cells (dipsC Y) 18 Md.own none]
noncomputable def hSOm8 (q1 q2 : Prop) (k : Nat) (ou n : Int) (P : PL) (X Y Z : List DipC) (m x y z o : Nat) (e f g r : Int) (B0 B2 B3 B4 B7 B8 B9 B10 : ABlk) (O : List AV) : AHeap := [B0, cells (itP P) 19 Md.own none, B2, B3, B4, ABlk.cells O 19 Md.own (some 4), cells (dipsC Y) 18 Md.own none, ABlk.dead, cells (List.take (o * 19) O) 19 Md.ro none, cells (putCells [AV.bool false, int u8 0, int u8 0, int u8 0, int u8 0, int u8 0, int u8 0, int u8 0, int u8 0, int u8 0, int u8 0, int u8 0, int u8 0, int u8 0, int u8 0, int u8 0, int u8 0, int u16 0, int i64 0] 0 (List.take 19 (List.drop (0 + r.toNat * 19) (itP P)))) 19 Md.own none, cells (List.take ((0 + o) * 19) (List.take (o * 19) O) ++ List.take 19 (putCells [AV.bool false, int u8 0, int u8 0, int u8 0, int u8 0, int u8 0, int u8 0, int u8 0, int u8 0, int u8 0, int u8 0, int u8 0, int u8 0, int u8 0, int u8 0, int u8 0, int u8 0, int u16 0, int i64 0] 0 (List.take 19 (List.drop (0 + r.toNat * 19) (itP P))))) 19 Md.own (some 8)]
noncomputable def hSOm9 (q1 q2 : Prop) (k : Nat) (ou n : Int) (P : PL) (X Y Z : List DipC) (m x y z o : Nat) (e f g r : Int) (B0 B2 B3 B4 B7 B8 B9 B10 : ABlk) (O : List AV) : AHeap := [cells (dipsC Z) 18 Md.own none]
noncomputable def hSOm10 (q1 q2 : Prop) (k : Nat) (ou n : Int) (P : PL) (X Y Z : List DipC) (m x y z o : Nat) (e f g r : Int) (B0 B2 B3 B4 B7 B8 B9 B10 : ABlk) (O : List AV) : AHeap := [B0, cells (itP P) 19 Md.own none, B2, B3, B4, ABlk.cells O 19 Md.own (some 4), cells (dipsC Y) 18 Md.own none, ABlk.dead, cells (List.take (o * 19) O) 19 Md.ro none, cells (putCells [AV.bool false, int u8 0, int u8 0, int u8 0, int u8 0, int u8 0, int u8 0, int u8 0, int u8 0, int u8 0, int u8 0, int u8 0, int u8 0, int u8 0, int u8 0, int u8 0, int u8 0, int u16 0, int i64 0] 0 (List.take 19 (List.drop (0 + r.toNat * 19) (itP P)))) 19 Md.own none, cells (List.take ((0 + o) * 19) (List.take (o * 19) O) ++ List.take 19 (putCells [AV.bool false, int u8 0, int u8 0, int u8 0, int u8 0, int u8 0, int u8 0, int u8 0, int u8 0, int u8 0, int u8 0, int u8 0, int u8 0, int u8 0, int u8 0, int u8 0, int u8 0, int u16 0, int i64 0] 0 (List.take 19 (List.drop (0 + r.toNat * 19) (itP P))))) 19 Md.own (some 8), cells (dipsC Z) 18 Md.own none]
noncomputable def hSOm11 (q1 q2 : Prop) (k : Nat) (ou n : Int) (P : PL) (X Y Z : List DipC) (m x y z o : Nat) (e f g r : Int) (B0 B2 B3 B4 B7 B8 B9 B10 : ABlk) (O : List AV) : AHeap := [B0, cells (itP P) 19 Md.own none, B2, B3, B4, ABlk.cells O 19 Md.own (some 4), cells (dipsC Y) 18 Md.own none, B7, B8, B9, B10, cells (dipsC Z) 18 Md.own none]
noncomputable def hSOm12 (q1 q2 : Prop) (k : Nat) (ou n : Int) (P : PL) (X Y Z : List DipC) (m x y z o : Nat) (e f g r : Int) (B0 B2 B3 B4 B7 B8 B9 B10 : ABlk) (O : List AV) : AHeap := []
theorem nfSOm {R : Type} (q1 q2 : Prop) (k : Nat) (ou n : Int) (P : PL) (X Y Z : List DipC) (m x y z o : Nat) (e f g r : Int) (B0 B2 B3 B4 B7 B8 B9 B10 : ABlk) (O : List AV) (K : AV → AHeap → Option R) :
 qrun Try.prog (tSO P X Y Z m x y z e f g) 100 4 [(31, .bool false), (79, .bool false), (117, .bool false)] [(11, fixC q1 mSO1 (vSO1 k n m r o y 0) (hSO1 B0 (itP P) B2 B3 B4 O (dipsC Y)) (.exit 0) (vSO1 k n m r o y n) (hSO1 B0 (itP P) B2 B3 B4 O (dipsC Y))), (19, fixC q2 mSO2 (vSO2 k n m r o y z 0) (hSO2 B0 (itP P) B2 B3 B4 O (dipsC Y) B7 B8 B9 B10 (dipsC Z)) (.exit 2) (vSO2 k n m r o y z o) (hSO2 B0 (itP P) B2 B3 B4 O (dipsC Y) B7 B8 B9 B10 (dipsC Z)))] 7 [.int .i64 k, .int .i64 ou, .int .i64 n] [] K =
 (if decide ((k : Int) < 2) = true then
 none
 else (if decide ((k : Int) > 20) = true then
 none
 else (if decide (n < 1) = true then
 none
 else (if decide (n > 64) = false then
 (if 1 = 1 ∧ 0 < 1 ∧ 0 ≤ (k : Int) ∧ (k : Int) ≤ (k : Int) ∧ (k : Int) ≤ 70368744177664 ∧ 8 * (k : Int) ≤ 281474976710656 then
 (if cdec
 (SvR
 [AV.sl (some (0, 0)) ((k : Int)).toNat
 (match true with
 | true => 0
 | false => ((k : Int)).toNat)
 false,
 AV.bool true]
 (hSOm0 q1 q2 k ou n P X Y Z m x y z o e f g r B0 B2 B3 B4 B7 B8 B9 B10 O) (AV.sl (some (1, 0)) m 0 false) (hSOm1 q1 q2 k ou n P X Y Z m x y z o e f g r B0 B2 B3 B4 B7 B8 B9 B10 O)) =
 true then
 (if cdec (FlR [AV.sl none 0 0 true, AV.sl (some (1, 0)) m 0 false, int i64 n] (hSOm2 q1 q2 k ou n P X Y Z m x y z o e f g r B0 B2 B3 B4 B7 B8 B9 B10 O) (AV.tup [AV.sl (some (2, 0)) x 0 false, int i64 e]) (hSOm3 q1 q2 k ou n P X Y Z m x y z o e f g r B0 B2 B3 B4 B7 B8 B9 B10 O)) = true then
 (if decide (0 < (k : Int) ∧ (k : Int) < 4611686018427387904) = true then
 (if 0 ≤ ou % (k : Int) ∧ ou % (k : Int) ≤ (((capOf m 0 false) : Nat) : Int) then
 (if 0 + ((ou % (k : Int)).toNat - 0) * 19 ≤ (itP P).length then
 (if (2 * (0 + ((ou % (k : Int)).toNat - 0)) + 200) * 32 ≤ 281474976710656 ∧ some 19 = some 19 ∧ 0 + ((ou % (k : Int)).toNat - 0) ≤ 70368744177664 then
 (if 0 = 0 ∧ 0 = 0 ∧ (0 < (ou % (k : Int)).toNat - 0 ∨ 0 = 0) ∧ 19 = 19 ∧ (List.take (((ou % (k : Int)).toNat - 0) * 19) (itP P)).all AV.isCell = true then
 (if 0 ≤ i64.wrap (ou % (k : Int) + 1) ∧ i64.wrap (ou % (k : Int) + 1) ≤ (m : Int) then
 (if 0 + (i64.wrap (ou % (k : Int) + 1)).toNat * 19 + (m - (i64.wrap (ou % (k : Int) + 1)).toNat) * 19 ≤ (itP P).length then
 (if (2 * (0 + ((ou % (k : Int)).toNat - 0) + (m - (i64.wrap (ou % (k : Int) + 1)).toNat)) + 200) * 32 ≤ 281474976710656 ∧ some 19 = some 19 ∧ 0 + ((ou % (k : Int)).toNat - 0) + (m - (i64.wrap (ou % (k : Int) + 1)).toNat) ≤ 70368744177664 then
 (if 0 + (0 + ((ou % (k : Int)).toNat - 0)) * 19 ≤ (List.take (((ou % (k : Int)).toNat - 0) * 19) (itP P)).length then
 (if 0 = 0 ∧ 0 + (0 + ((ou % (k : Int)).toNat - 0)) * 19 = (List.take (((ou % (k : Int)).toNat - 0) * 19) (itP P)).length ∧ (0 < m - (i64.wrap (ou % (k : Int) + 1)).toNat ∨ 0 = 0) ∧ 19 = 19 ∧ (List.take ((m - (i64.wrap (ou % (k : Int) + 1)).toNat) * 19) (List.drop (0 + (i64.wrap (ou % (k : Int) + 1)).toNat * 19) (itP P))).all AV.isCell = true then
 (if cdec (FlR [AV.sl (some (2, 0)) x 0 false, AV.sl (some (5, 0)) (0 + ((ou % (k : Int)).toNat - 0) + (m - (i64.wrap (ou % (k : Int) + 1)).toNat)) 0 false, int i64 n] (hSOm4 q1 q2 k ou n P X Y Z m x y z o e f g r B0 B2 B3 B4 B7 B8 B9 B10 O) (AV.tup [AV.sl (some (6, 0)) y 0 false, int i64 f]) (hSOm5 q1 q2 k ou n P X Y Z m x y z o e f g r B0 B2 B3 B4 B7 B8 B9 B10 O)) = true then
 (if (e != 0) = true then
 none
 else (if (f != 0) = true then
 none
 else (if ((x : Int) != n) = true then
 none
 else (if ((y : Int) != n) = false then
 (if cdec (q1 ∧ [int i64 (k : Int), int i64 n, AV.sl (some (1, 0)) m 0 false, int i64 (ou % (k : Int)), AV.sl (some (5, 0)) (0 + ((ou % (k : Int)).toNat - 0) + (m - (i64.wrap (ou % (k : Int) + 1)).toNat)) 0 false, AV.sl (some (6, 0)) y 0 false, int i64 0] = [int i64 (k : Int), int i64 n, AV.sl (some (1, 0)) m 0 false, int i64 r, AV.sl (some (5, 0)) o 0 false, AV.sl (some (6, 0)) y 0 false, int i64 0] ∧ (hSOm6 q1 q2 k ou n P X Y Z m x y z o e f g r B0 B2 B3 B4 B7 B8 B9 B10 O) = (hSOm7 q1 q2 k ou n P X Y Z m x y z o e f g r B0 B2 B3 B4 B7 B8 B9 B10 O)) = true then
 (if 0 + o * 19 ≤ O.length then
 (if (2 * (0 + o) + 200) * 32 ≤ 281474976710656 ∧ some 19 = some 19 ∧ 0 + o ≤ 70368744177664 then
 (if 0 = 0 ∧ 0 = 0 ∧ (0 < o ∨ 0 = 0) ∧ 19 = 19 ∧ (List.take (o * 19) O).all AV.isCell = true then
 (if 0 ≤ r ∧ r < (m : Int) then
 (if 0 + r.toNat * 19 + 19 ≤ (itP P).length then
 (if (List.take 19 (List.drop (0 + r.toNat * 19) (itP P))).length = 19 ∧ 19 ≤ 19 then
 (if 19 ≤ (putCells [AV.bool false, int u8 0, int u8 0, int u8 0, int u8 0, int u8 0, int u8 0, int u8 0, int u8 0, int u8 0, int u8 0, int u8 0, int u8 0, int u8 0, int u8 0, int u8 0, int u8 0, int u16 0, int i64 0] 0 (List.take 19 (List.drop (0 + r.toNat * 19) (itP P)))).length then
 (if (2 * (0 + o + 1) + 200) * 32 ≤ 281474976710656 ∧ some 19 = some 19 ∧ 0 + o + 1 ≤ 70368744177664 then
 (if 0 + (0 + o) * 19 ≤ (List.take (o * 19) O).length then
 (if 0 = 0 ∧ 0 + (0 + o) * 19 = (List.take (o * 19) O).length ∧ (0 < 1 ∨ 0 = 0) ∧ 19 = 19 ∧ (List.take 19 (putCells [AV.bool false, int u8 0, int u8 0, int u8 0, int u8 0, int u8 0, int u8 0, int u8 0, int u8 0, int u8 0, int u8 0, int u8 0, int u8 0, int u8 0, int u8 0, int u8 0, int u8 0, int u16 0, int i64 0] 0 (List.take 19 (List.drop (0 + r.toNat * 19) (itP P))))).all AV.isCell = true then
 (if cdec (FlR [AV.sl (some (6, 0)) y 0 false, AV.sl (some (10, 0)) (0 + o + 1) 0 false, int i64 n] (hSOm8 q1 q2 k ou n P X Y Z m x y z o e f g r B0 B2 B3 B4 B7 B8 B9 B10 O) (AV.tup [AV.sl (some (11, 0)) z 0 false, int i64 g]) (hSOm9 q1 q2 k ou n P X Y Z m x y z o e f g r B0 B2 B3 B4 B7 B8 B9 B10 O)) = true then
 (if 0 + r.toNat * 19 + 19 ≤ (itP P).length then
 (if (AV.agg (List.take 19 (List.drop (0 + r.toNat * 19) (itP P)))).beq (AV.agg (List.take 19 (List.drop (0 + r.toNat * 19) (itP P)))) = true then
 (if 0 + r.toNat * 19 + 19 ≤ (itP P).length then
 (if (AV.agg (List.take 19 (List.drop (0 + r.toNat * 19) (itP P)))).beq (AV.agg (List.take 19 (List.drop (0 + r.toNat * 19) (itP P)))) = true then
 (if (g != 0) = true then
 none
 else (if ((z : Int) != n) = false then
 (if cdec (q2 ∧ [int i64 (k : Int), int i64 n, AV.sl (some (1, 0)) m 0 false, int i64 r, AV.sl (some (5, 0)) o 0 false, AV.sl (some (6, 0)) y 0 false, AV.sl (some (11, 0)) z 0 false, int i64 0] = [int i64 (k : Int), int i64 n, AV.sl (some (1, 0)) m 0 false, int i64 r, AV.sl (some (5, 0)) o 0 false, AV.sl (some (6, 0)) y 0 false, AV.sl (some (11, 0)) z 0 false, int i64 0] ∧ (hSOm10 q1 q2 k ou n P X Y Z m x y z o e f g r B0 B2 B3 B4 B7 B8 B9 B10 O) = (hSOm11 q1 q2 k ou n P X Y Z m x y z o e f g r B0 B2 B3 B4 B7 B8 B9 B10 O)) = true then
 (if 0 ≤ r ∧ r < (m : Int) then
 (if 0 + r.toNat * 19 + 0 + 18 ≤ (itP P).length then
 (if cdec (CnR [AV.sl (some (11, 0)) z 0 false, AV.agg (List.take 18 (List.drop (0 + r.toNat * 19 + 0) (itP P)))] (hSOm11 q1 q2 k ou n P X Y Z m x y z o e f g r B0 B2 B3 B4 B7 B8 B9 B10 O) (int i64 (intC CnR [AV.sl (some (11, 0)) z 0 false, AV.agg (List.take 18 (List.drop (0 + r.toNat * 19 + 0) (itP P)))] (hSOm11 q1 q2 k ou n P X Y Z m x y z o e f g r B0 B2 B3 B4 B7 B8 B9 B10 O))) (hSOm12 q1 q2 k ou n P X Y Z m x y z o e f g r B0 B2 B3 B4 B7 B8 B9 B10 O)) = true then
 (if (k : Int) = 0 then
 none
 else (if decide (intC CnR [AV.sl (some (11, 0)) z 0 false, AV.agg (List.take 18 (List.drop (0 + r.toNat * 19 + 0) (itP P)))] (hSOm11 q1 q2 k ou n P X Y Z m x y z o e f g r B0 B2 B3 B4 B7 B8 B9 B10 O) ≤ i64.wrap (i64.wrap (n.tdiv (k : Int)) + 1)) = true then
 (if 0 ≤ r ∧ r < (m : Int) then
 (if 0 + r.toNat * 19 + 0 + 18 ≤ (itP P).length then
 (if cdec (CnR [AV.sl (some (11, 0)) z 0 false, AV.agg (List.take 18 (List.drop (0 + r.toNat * 19 + 0) (itP P)))] (hSOm11 q1 q2 k ou n P X Y Z m x y z o e f g r B0 B2 B3 B4 B7 B8 B9 B10 O) (int i64 (intC CnR [AV.sl (some (11, 0)) z 0 false, AV.agg (List.take 18 (List.drop (0 + r.toNat * 19 + 0) (itP P)))] (hSOm11 q1 q2 k ou n P X Y Z m x y z o e f g r B0 B2 B3 B4 B7 B8 B9 B10 O))) (hSOm12 q1 q2 k ou n P X Y Z m x y z o e f g r B0 B2 B3 B4 B7 B8 B9 B10 O)) = true then
 (if (k : Int) = 0 then
 none
 else (if decide (intC CnR [AV.sl (some (11, 0)) z 0 false, AV.agg (List.take 18 (List.drop (0 + r.toNat * 19 + 0) (itP P)))] (hSOm11 q1 q2 k ou n P X Y Z m x y z o e f g r B0 B2 B3 B4 B7 B8 B9 B10 O) ≥ i64.wrap (n.tdiv (k : Int))) = true then
 (if cdec (MvR [AV.sl (some (6, 0)) y 0 false, AV.sl (some (11, 0)) z 0 false] (hSOm11 q1 q2 k ou n P X Y Z m x y z o e f g r B0 B2 B3 B4 B7 B8 B9 B10 O) (int i64 (intC MvR [AV.sl (some (6, 0)) y 0 false, AV.sl (some (11, 0)) z 0 false] (hSOm11 q1 q2 k ou n P X Y Z m x y z o e f g r B0 B2 B3 B4 B7 B8 B9 B10 O))) (hSOm12 q1 q2 k ou n P X Y Z m x y z o e f g r B0 B2 B3 B4 B7 B8 B9 B10 O)) = true then
 (if 0 ≤ r ∧ r < (m : Int) then
 (if 0 + r.toNat * 19 + 0 + 18 ≤ (itP P).length then
 (if cdec (CnR [AV.sl (some (11, 0)) z 0 false, AV.agg (List.take 18 (List.drop (0 + r.toNat * 19 + 0) (itP P)))] (hSOm11 q1 q2 k ou n P X Y Z m x y z o e f g r B0 B2 B3 B4 B7 B8 B9 B10 O) (int i64 (intC CnR [AV.sl (some (11, 0)) z 0 false, AV.agg (List.take 18 (List.drop (0 + r.toNat * 19 + 0) (itP P)))] (hSOm11 q1 q2 k ou n P X Y Z m x y z o e f g r B0 B2 B3 B4 B7 B8 B9 B10 O))) (hSOm12 q1 q2 k ou n P X Y Z m x y z o e f g r B0 B2 B3 B4 B7 B8 B9 B10 O)) = true then
 (if (intC MvR [AV.sl (some (6, 0)) y 0 false, AV.sl (some (11, 0)) z 0 false] (hSOm11 q1 q2 k ou n P X Y Z m x y z o e f g r B0 B2 B3 B4 B7 B8 B9 B10 O) == intC CnR [AV.sl (some (11, 0)) z 0 false, AV.agg (List.take 18 (List.drop (0 + r.toNat * 19 + 0) (itP P)))] (hSOm11 q1 q2 k ou n P X Y Z m x y z o e f g r B0 B2 B3 B4 B7 B8 B9 B10 O)) = true then
 (if 0 + r.toNat * 19 + 0 + 18 ≤ (itP P).length then
 (if (AV.agg (List.take 18 (List.drop (0 + r.toNat * 19 + 0) (itP P)))).beq (AV.agg (List.take 18 (List.drop (0 + r.toNat * 19 + 0) (itP P)))) = true then
 K (AV.bool true) ((hSOm11 q1 q2 k ou n P X Y Z m x y z o e f g r B0 B2 B3 B4 B7 B8 B9 B10 O))
 else none) else none)
 else (if 0 + r.toNat * 19 + 0 + 18 ≤ (itP P).length then
 (if (AV.agg (List.take 18 (List.drop (0 + r.toNat * 19 + 0) (itP P)))).beq (AV.agg (List.take 18 (List.drop (0 + r.toNat * 19 + 0) (itP P)))) = true then
 K (AV.bool false) ((hSOm11 q1 q2 k ou n P X Y Z m x y z o e f g r B0 B2 B3 B4 B7 B8 B9 B10 O))
 else none) else none))
 else none) else none) else none) else none)
 else K (AV.bool false) ((hSOm11 q1 q2 k ou n P X Y Z m x y z o e f g r B0 B2 B3 B4 B7 B8 B9 B10 O))))
 else none) else none) else none)
 else K (AV.bool false) ((hSOm11 q1 q2 k ou n P X Y Z m x y z o e f g r B0 B2 B3 B4 B7 B8 B9 B10 O))))
 else none) else none) else none) else none) else none))
 else none) else none) else none) else none) else none) else none) else none) else none) else none) else none) else none) else none) else none) else none) else none) else none) else none))))
 else none) else none) else none) else none) else none) else none) else none) else none) else none) else none) else none) else none) else none) else none) else none)))) := by
  kernel_rfl


end Go.Proofs.Ytlppbeoiphglcaa.L
