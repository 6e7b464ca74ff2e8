/- The reference's Whole, Dip, SameCommand: rows. -/
import Derived.Test.YtjlepcfeeicdfaaRcK
set_option autoImplicit false
set_option maxRecDepth 100000
set_option linter.unusedVariables false
set_option linter.unusedSimpArgs false
namespace Go.Proofs.Ytjlepcfeeicdfaa.L
open Go Go.Abs
open Go.IntKind (u8 u16 u32 u64 i64)
open Go.Abs.AV (int)
open Go.Abs.ABlk (cells)

noncomputable abbrev SCL := loopIn (bodyOf Try.prog 16) 0
def mSc : List Bool := [false, false, true, true, true, true] ++ List.replicate 39 false
def r19 (C : List AV) (i : Int) : List AV := (C.drop (0 + i.toNat * 19)).take 19
def eqM (X Y : List AV) : Bool := (boolV (List.take 17 (List.take 18 X))[0]? == boolV (List.take 17 (List.take 18 Y))[0]? && (intV (List.take 16 (List.drop 1 (List.take 17 (List.take 18 X))))[0]? == intV (List.take 16 (List.drop 1 (List.take 17 (List.take 18 Y))))[0]? && (intV (List.take 16 (List.drop 1 (List.take 17 (List.take 18 X))))[1]? == intV (List.take 16 (List.drop 1 (List.take 17 (List.take 18 Y))))[1]? && (intV (List.take 16 (List.drop 1 (List.take 17 (List.take 18 X))))[2]? == intV (List.take 16 (List.drop 1 (List.take 17 (List.take 18 Y))))[2]? && (intV (List.take 16 (List.drop 1 (List.take 17 (List.take 18 X))))[3]? == intV (List.take 16 (List.drop 1 (List.take 17 (List.take 18 Y))))[3]? && (intV (List.take 16 (List.drop 1 (List.take 17 (List.take 18 X))))[4]? == intV (List.take 16 (List.drop 1 (List.take 17 (List.take 18 Y))))[4]? && (intV (List.take 16 (List.drop 1 (List.take 17 (List.take 18 X))))[5]? == intV (List.take 16 (List.drop 1 (List.take 17 (List.take 18 Y))))[5]? && (intV (List.take 16 (List.drop 1 (List.take 17 (List.take 18 X))))[6]? == intV (List.take 16 (List.drop 1 (List.take 17 (List.take 18 Y))))[6]? && (intV (List.take 16 (List.drop 1 (List.take 17 (List.take 18 X))))[7]? == intV (List.take 16 (List.drop 1 (List.take 17 (List.take 18 Y))))[7]? && (intV (List.take 16 (List.drop 1 (List.take 17 (List.take 18 X))))[8]? == intV (List.take 16 (List.drop 1 (List.take 17 (List.take 18 Y))))[8]? && (intV (List.take 16 (List.drop 1 (List.take 17 (List.take 18 X))))[9]? == intV (List.take 16 (List.drop 1 (List.take 17 (List.take 18 Y))))[9]? && (intV (List.take 16 (List.drop 1 (List.take 17 (List.take 18 X))))[10]? == intV (List.take 16 (List.drop 1 (List.take 17 (List.take 18 Y))))[10]? && (intV (List.take 16 (List.drop 1 (List.take 17 (List.take 18 X))))[11]? == intV (List.take 16 (List.drop 1 (List.take 17 (List.take 18 Y))))[11]? && (intV (List.take 16 (List.drop 1 (List.take 17 (List.take 18 X))))[12]? == intV (List.take 16 (List.drop 1 (List.take 17 (List.take 18 Y))))[12]? && (intV (List.take 16 (List.drop 1 (List.take 17 (List.take 18 X))))[13]? == intV (List.take 16 (List.drop 1 (List.take 17 (List.take 18 Y))))[13]? && (intV (List.take 16 (List.drop 1 (List.take 17 (List.take 18 X))))[14]? == intV (List.take 16 (List.drop 1 (List.take 17 (List.take 18 Y))))[14]? && (intV (List.take 16 (List.drop 1 (List.take 17 (List.take 18 X))))[15]? == intV (List.take 16 (List.drop 1 (List.take 17 (List.take 18 Y))))[15]? && true))))))))))))))) && true) && (intV (List.take 18 X)[17]? == intV (List.take 18 Y)[17]? && true) && (intV X[18]? == intV Y[18]? && true))
def eqV (pr : Int) (w : Bool) (x : Nat → Int) (po : Int) (pr1 : Int) (w1 : Bool) (y : Nat → Int) (po1 : Int) : Bool := (intV (some (.int .u8 pr)) == intV (some (.int .u8 pr1)) && (boolV (some (.bool w)) == boolV (some (.bool w1)) && (intV (some (.int .u8 (x 0))) == intV (some (.int .u8 (y 0))) && (intV (some (.int .u8 (x 1))) == intV (some (.int .u8 (y 1))) && (intV (some (.int .u8 (x 2))) == intV (some (.int .u8 (y 2))) && (intV (some (.int .u8 (x 3))) == intV (some (.int .u8 (y 3))) && (intV (some (.int .u8 (x 4))) == intV (some (.int .u8 (y 4))) && (intV (some (.int .u8 (x 5))) == intV (some (.int .u8 (y 5))) && (intV (some (.int .u8 (x 6))) == intV (some (.int .u8 (y 6))) && (intV (some (.int .u8 (x 7))) == intV (some (.int .u8 (y 7))) && (intV (some (.int .u8 (x 8))) == intV (some (.int .u8 (y 8))) && (intV (some (.int .u8 (x 9))) == intV (some (.int .u8 (y 9))) && (intV (some (.int .u8 (x 10))) == intV (some (.int .u8 (y 10))) && (intV (some (.int .u8 (x 11))) == intV (some (.int .u8 (y 11))) && (intV (some (.int .u8 (x 12))) == intV (some (.int .u8 (y 12))) && (intV (some (.int .u8 (x 13))) == intV (some (.int .u8 (y 13))) && (intV (some (.int .u8 (x 14))) == intV (some (.int .u8 (y 14))) && (intV (some (.int .u8 (x 15))) == intV (some (.int .u8 (y 15))) && true))))))))))))))) && true) && (intV (some (.int .u16 po)) == intV (some (.int .u16 po1)) && true)))
def vSc (i : Int) : List AV := [.ptr (some (2, 0)), .ptr (some (3, 0)), .bool false, .int .i64 i]
noncomputable def hScX0 (C D : List AV) (m n : Nat) (k pr : Int) (w : Bool) (x : Nat → Int) (po : Int) (k1 pr1 : Int) (w1 : Bool) (y : Nat → Int) (po1 : Int) : AHeap := [ABlk.cells C 19 Md.far none, ABlk.cells D 19 Md.far none, cells [int i64 k, b8 pr, AV.bool w, b8 (x 0), b8 (x 1), b8 (x 2), b8 (x 3), b8 (x 4), b8 (x 5), b8 (x 6), b8 (x 7), b8 (x 8), b8 (x 9), b8 (x 10), b8 (x 11), b8 (x 12), b8 (x 13), b8 (x 14), b8 (x 15), int u16 po, AV.sl (some (0, 0)) m 0 false] 21 Md.own none, cells [int i64 k1, b8 pr1, AV.bool w1, b8 (y 0), b8 (y 1), b8 (y 2), b8 (y 3), b8 (y 4), b8 (y 5), b8 (y 6), b8 (y 7), b8 (y 8), b8 (y 9), b8 (y 10), b8 (y 11), b8 (y 12), b8 (y 13), b8 (y 14), b8 (y 15), int u16 po1, AV.sl (some (1, 0)) n 0 false] 21 Md.own none]
theorem nfScX {R : Type} (C D : List AV) (m n : Nat) (k pr : Int) (w : Bool) (x : Nat → Int) (po : Int) (k1 pr1 : Int) (w1 : Bool) (y : Nat → Int) (po1 : Int) (K : AV → AHeap → Option R) :
 qrun Try.prog [] 100 4 [(26, .bool true)] [] 16 [.agg (cmA k pr w x po (.sl (some (0, 0)) m 0 false)), .agg (cmA k1 pr1 w1 y po1 (.sl (some (1, 0)) n 0 false))] [.cells C 19 .far none, .cells D 19 .far none] K =
 (if (intV (some (int i64 k)) != intV (some (int i64 k1))) = true then
 K (AV.bool false) ((hScX0 C D m n k pr w x po k1 pr1 w1 y po1))
 else (if (!eqV pr w x po pr1 w1 y po1) = true then
 K (AV.bool false) ((hScX0 C D m n k pr w x po k1 pr1 w1 y po1))
 else (if ((m : Int) != (n : Int)) = true then
 K (AV.bool false) ((hScX0 C D m n k pr w x po k1 pr1 w1 y po1))
 else none))) := by
  kernel_rfl

noncomputable def hScL0 (C D : List AV) (m n : Nat) (k pr : Int) (w : Bool) (x : Nat → Int) (po : Int) (k1 pr1 : Int) (w1 : Bool) (y : Nat → Int) (po1 : Int) (q : Prop) (i : Int) (h0 : AHeap) : AHeap := [ABlk.cells C 19 Md.far none, ABlk.cells D 19 Md.far none, cells [int i64 k, b8 pr, AV.bool w, b8 (x 0), b8 (x 1), b8 (x 2), b8 (x 3), b8 (x 4), b8 (x 5), b8 (x 6), b8 (x 7), b8 (x 8), b8 (x 9), b8 (x 10), b8 (x 11), b8 (x 12), b8 (x 13), b8 (x 14), b8 (x 15), int u16 po, AV.sl (some (0, 0)) m 0 false] 21 Md.own none, cells [int i64 k1, b8 pr1, AV.bool w1, b8 (y 0), b8 (y 1), b8 (y 2), b8 (y 3), b8 (y 4), b8 (y 5), b8 (y 6), b8 (y 7), b8 (y 8), b8 (y 9), b8 (y 10), b8 (y 11), b8 (y 12), b8 (y 13), b8 (y 14), b8 (y 15), int u16 po1, AV.sl (some (1, 0)) n 0 false] 21 Md.own none]
theorem nfScL {R : Type} (C D : List AV) (m n : Nat) (k pr : Int) (w : Bool) (x : Nat → Int) (po : Int) (k1 pr1 : Int) (w1 : Bool) (y : Nat → Int) (po1 : Int) (q : Prop) (i : Int) (h0 : AHeap) (K : AV → AHeap → Option R) :
 qrun Try.prog [] 100 4 [(26, .bool false)] [(4, fixC q mSc (vSc 0) h0 (.exit 0) (vSc i) h0)] 16 [.agg (cmA k pr w x po (.sl (some (0, 0)) m 0 false)), .agg (cmA k1 pr1 w1 y po1 (.sl (some (1, 0)) n 0 false))] [.cells C 19 .far none, .cells D 19 .far none] K =
 (if (intV (some (int i64 k)) != intV (some (int i64 k1))) = true then
 none
 else (if (!eqV pr w x po pr1 w1 y po1) = true then
 none
 else (if ((m : Int) != (n : Int)) = false then
 (if cdec (q ∧ [AV.ptr (some (2, 0)), AV.ptr (some (3, 0)), AV.bool false, int i64 0] = [AV.ptr (some (2, 0)), AV.ptr (some (3, 0)), AV.bool false, int i64 0] ∧ (hScL0 C D m n k pr w x po k1 pr1 w1 y po1 q i h0) = h0) = true then
 K (AV.bool true) (h0)
 else none) else none))) := by
  kernel_rfl

noncomputable def hScB0 (C D : List AV) (m n : Nat) (k pr : Int) (w : Bool) (x : Nat → Int) (po : Int) (k1 pr1 : Int) (w1 : Bool) (y : Nat → Int) (po1 : Int) (q : Prop) (i : Int) (h0 : AHeap) : AHeap := [ABlk.cells C 19 Md.far none, ABlk.cells D 19 Md.far none, cells [int i64 k, b8 pr, AV.bool w, b8 (x 0), b8 (x 1), b8 (x 2), b8 (x 3), b8 (x 4), b8 (x 5), b8 (x 6), b8 (x 7), b8 (x 8), b8 (x 9), b8 (x 10), b8 (x 11), b8 (x 12), b8 (x 13), b8 (x 14), b8 (x 15), int u16 po, AV.sl (some (0, 0)) m 0 false] 21 Md.own none, cells [int i64 k1, b8 pr1, AV.bool w1, b8 (y 0), b8 (y 1), b8 (y 2), b8 (y 3), b8 (y 4), b8 (y 5), b8 (y 6), b8 (y 7), b8 (y 8), b8 (y 9), b8 (y 10), b8 (y 11), b8 (y 12), b8 (y 13), b8 (y 14), b8 (y 15), int u16 po1, AV.sl (some (1, 0)) n 0 false] 21 Md.own none]
theorem nfScB {R : Type} (C D : List AV) (m n : Nat) (k pr : Int) (w : Bool) (x : Nat → Int) (po : Int) (k1 pr1 : Int) (w1 : Bool) (y : Nat → Int) (po1 : Int) (q : Prop) (i : Int) (h0 : AHeap) (K : AV → AHeap → Option R) :
 qrun Try.prog [] 100 4 [(26, .bool false)] [(4, fixC q mSc (vSc 0) h0 .ret (vSc i) h0)] 16 [.agg (cmA k pr w x po (.sl (some (0, 0)) m 0 false)), .agg (cmA k1 pr1 w1 y po1 (.sl (some (1, 0)) n 0 false))] [.cells C 19 .far none, .cells D 19 .far none] K =
 (if (intV (some (int i64 k)) != intV (some (int i64 k1))) = true then
 none
 else (if (!eqV pr w x po pr1 w1 y po1) = true then
 none
 else (if ((m : Int) != (n : Int)) = false then
 (if cdec (q ∧ [AV.ptr (some (2, 0)), AV.ptr (some (3, 0)), AV.bool false, int i64 0] = [AV.ptr (some (2, 0)), AV.ptr (some (3, 0)), AV.bool false, int i64 0] ∧ (hScB0 C D m n k pr w x po k1 pr1 w1 y po1 q i h0) = h0) = true then
 K (AV.bool false) (h0)
 else none) else none))) := by
  kernel_rfl

noncomputable def hScrR0 (C D : List AV) (m n : Nat) (k pr : Int) (w : Bool) (x : Nat → Int) (po : Int) (k1 pr1 : Int) (w1 : Bool) (y : Nat → Int) (po1 : Int) (i : Int) : AHeap := [ABlk.cells C 19 Md.far none, ABlk.cells D 19 Md.far none, cells [int i64 k, b8 pr, AV.bool w, b8 (x 0), b8 (x 1), b8 (x 2), b8 (x 3), b8 (x 4), b8 (x 5), b8 (x 6), b8 (x 7), b8 (x 8), b8 (x 9), b8 (x 10), b8 (x 11), b8 (x 12), b8 (x 13), b8 (x 14), b8 (x 15), int u16 po, AV.sl (some (0, 0)) m 0 false] 21 Md.own none, cells [int i64 k1, b8 pr1, AV.bool w1, b8 (y 0), b8 (y 1), b8 (y 2), b8 (y 3), b8 (y 4), b8 (y 5), b8 (y 6), b8 (y 7), b8 (y 8), b8 (y 9), b8 (y 10), b8 (y 11), b8 (y 12), b8 (y 13), b8 (y 14), b8 (y 15), int u16 po1, AV.sl (some (1, 0)) n 0 false] 21 Md.own none]
theorem nfScrR (C D : List AV) (m n : Nat) (k pr : Int) (w : Bool) (x : Nat → Int) (po : Int) (k1 pr1 : Int) (w1 : Bool) (y : Nat → Int) (po1 : Int) (i : Int) :
 qround Try.prog [] 100 4 [(31, .bool true), (44, .bool false)] noT SCL mSc (vSc i) [.cells C 19 .far none, .cells D 19 .far none, .cells (cmA k pr w x po (.sl (some (0, 0)) m 0 false)) 21 .own none, .cells (cmA k1 pr1 w1 y po1 (.sl (some (1, 0)) n 0 false)) 21 .own none] =
 (if decide (i < (m : Int)) = true then
 (if 0 ≤ i ∧ i < (m : Int) then
 (if 0 + i.toNat * 19 + 19 ≤ C.length then
 (if 0 ≤ i ∧ i < (n : Int) then
 (if 0 + i.toNat * 19 + 19 ≤ D.length then
 (if 18 ≤ (r19 C i).length then
 (if 18 ≤ (r19 D i).length then
 (if 17 ≤ (List.take 18 (r19 C i)).length then
 (if 17 ≤ (List.take 18 (r19 D i)).length then
 (if isBoolV (List.take 17 (List.take 18 (r19 C i)))[0]? = true then
 (if isBoolV (List.take 17 (List.take 18 (r19 D i)))[0]? = true then
 (if 17 ≤ (List.take 17 (List.take 18 (r19 C i))).length then
 (if 17 ≤ (List.take 17 (List.take 18 (r19 D i))).length then
 (if isIntV u8 (List.take 16 (List.drop 1 (List.take 17 (List.take 18 (r19 C i)))))[0]? = true then
 (if isIntV u8 (List.take 16 (List.drop 1 (List.take 17 (List.take 18 (r19 D i)))))[0]? = true then
 (if isIntV u8 (List.take 16 (List.drop 1 (List.take 17 (List.take 18 (r19 C i)))))[1]? = true then
 (if isIntV u8 (List.take 16 (List.drop 1 (List.take 17 (List.take 18 (r19 D i)))))[1]? = true then
 (if isIntV u8 (List.take 16 (List.drop 1 (List.take 17 (List.take 18 (r19 C i)))))[2]? = true then
 (if isIntV u8 (List.take 16 (List.drop 1 (List.take 17 (List.take 18 (r19 D i)))))[2]? = true then
 (if isIntV u8 (List.take 16 (List.drop 1 (List.take 17 (List.take 18 (r19 C i)))))[3]? = true then
 (if isIntV u8 (List.take 16 (List.drop 1 (List.take 17 (List.take 18 (r19 D i)))))[3]? = true then
 (if isIntV u8 (List.take 16 (List.drop 1 (List.take 17 (List.take 18 (r19 C i)))))[4]? = true then
 (if isIntV u8 (List.take 16 (List.drop 1 (List.take 17 (List.take 18 (r19 D i)))))[4]? = true then
 (if isIntV u8 (List.take 16 (List.drop 1 (List.take 17 (List.take 18 (r19 C i)))))[5]? = true then
 (if isIntV u8 (List.take 16 (List.drop 1 (List.take 17 (List.take 18 (r19 D i)))))[5]? = true then
 (if isIntV u8 (List.take 16 (List.drop 1 (List.take 17 (List.take 18 (r19 C i)))))[6]? = true then
 (if isIntV u8 (List.take 16 (List.drop 1 (List.take 17 (List.take 18 (r19 D i)))))[6]? = true then
 (if isIntV u8 (List.take 16 (List.drop 1 (List.take 17 (List.take 18 (r19 C i)))))[7]? = true then
 (if isIntV u8 (List.take 16 (List.drop 1 (List.take 17 (List.take 18 (r19 D i)))))[7]? = true then
 (if isIntV u8 (List.take 16 (List.drop 1 (List.take 17 (List.take 18 (r19 C i)))))[8]? = true then
 (if isIntV u8 (List.take 16 (List.drop 1 (List.take 17 (List.take 18 (r19 D i)))))[8]? = true then
 (if isIntV u8 (List.take 16 (List.drop 1 (List.take 17 (List.take 18 (r19 C i)))))[9]? = true then
 (if isIntV u8 (List.take 16 (List.drop 1 (List.take 17 (List.take 18 (r19 D i)))))[9]? = true then
 (if isIntV u8 (List.take 16 (List.drop 1 (List.take 17 (List.take 18 (r19 C i)))))[10]? = true then
 (if isIntV u8 (List.take 16 (List.drop 1 (List.take 17 (List.take 18 (r19 D i)))))[10]? = true then
 (if isIntV u8 (List.take 16 (List.drop 1 (List.take 17 (List.take 18 (r19 C i)))))[11]? = true then
 (if isIntV u8 (List.take 16 (List.drop 1 (List.take 17 (List.take 18 (r19 D i)))))[11]? = true then
 (if isIntV u8 (List.take 16 (List.drop 1 (List.take 17 (List.take 18 (r19 C i)))))[12]? = true then
 (if isIntV u8 (List.take 16 (List.drop 1 (List.take 17 (List.take 18 (r19 D i)))))[12]? = true then
 (if isIntV u8 (List.take 16 (List.drop 1 (List.take 17 (List.take 18 (r19 C i)))))[13]? = true then
 (if isIntV u8 (List.take 16 (List.drop 1 (List.take 17 (List.take 18 (r19 D i)))))[13]? = true then
 (if isIntV u8 (List.take 16 (List.drop 1 (List.take 17 (List.take 18 (r19 C i)))))[14]? = true then
 (if isIntV u8 (List.take 16 (List.drop 1 (List.take 17 (List.take 18 (r19 D i)))))[14]? = true then
 (if isIntV u8 (List.take 16 (List.drop 1 (List.take 17 (List.take 18 (r19 C i)))))[15]? = true then
 (if isIntV u8 (List.take 16 (List.drop 1 (List.take 17 (List.take 18 (r19 D i)))))[15]? = true then
 (if isIntV u16 (List.take 18 (r19 C i))[17]? = true then
 (if isIntV u16 (List.take 18 (r19 D i))[17]? = true then
 (if isIntV i64 (r19 C i)[18]? = true then
 (if isIntV i64 (r19 D i)[18]? = true then
 (if (!eqM (r19 C i) (r19 D i)) = false then
 some ((AEx.norm, [AV.ptr (some (2, 0)), AV.ptr (some (3, 0)), AV.bool false, int i64 (i64.wrap (i + 1))], (hScrR0 C D m n k pr w x po k1 pr1 w1 y po1 i)))
 else none) else none) else none) else none) else none) else none) else none) else none) else none) else none) else none) else none) else none) else none) else none) else none) else none) else none) else none) else none) else none) else none) else none) else none) else none) else none) else none) else none) else none) else none) else none) else none) else none) else none) else none) else none) else none) else none) else none) else none) else none) else none) else none) else none) else none) else none) else none) else none) else none) else none) := by
  kernel_rfl

noncomputable def hScrD0 (C D : List AV) (m n : Nat) (k pr : Int) (w : Bool) (x : Nat → Int) (po : Int) (k1 pr1 : Int) (w1 : Bool) (y : Nat → Int) (po1 : Int) (i : Int) : AHeap := [ABlk.cells C 19 Md.far none, ABlk.cells D 19 Md.far none, cells [int i64 k, b8 pr, AV.bool w, b8 (x 0), b8 (x 1), b8 (x 2), b8 (x 3), b8 (x 4), b8 (x 5), b8 (x 6), b8 (x 7), b8 (x 8), b8 (x 9), b8 (x 10), b8 (x 11), b8 (x 12), b8 (x 13), b8 (x 14), b8 (x 15), int u16 po, AV.sl (some (0, 0)) m 0 false] 21 Md.own none, cells [int i64 k1, b8 pr1, AV.bool w1, b8 (y 0), b8 (y 1), b8 (y 2), b8 (y 3), b8 (y 4), b8 (y 5), b8 (y 6), b8 (y 7), b8 (y 8), b8 (y 9), b8 (y 10), b8 (y 11), b8 (y 12), b8 (y 13), b8 (y 14), b8 (y 15), int u16 po1, AV.sl (some (1, 0)) n 0 false] 21 Md.own none]
theorem nfScrD (C D : List AV) (m n : Nat) (k pr : Int) (w : Bool) (x : Nat → Int) (po : Int) (k1 pr1 : Int) (w1 : Bool) (y : Nat → Int) (po1 : Int) (i : Int) :
 qround Try.prog [] 100 4 [(31, .bool true), (44, .bool true)] noT SCL mSc (vSc i) [.cells C 19 .far none, .cells D 19 .far none, .cells (cmA k pr w x po (.sl (some (0, 0)) m 0 false)) 21 .own none, .cells (cmA k1 pr1 w1 y po1 (.sl (some (1, 0)) n 0 false)) 21 .own none] =
 (if decide (i < (m : Int)) = true then
 (if 0 ≤ i ∧ i < (m : Int) then
 (if 0 + i.toNat * 19 + 19 ≤ C.length then
 (if 0 ≤ i ∧ i < (n : Int) then
 (if 0 + i.toNat * 19 + 19 ≤ D.length then
 (if 18 ≤ (r19 C i).length then
 (if 18 ≤ (r19 D i).length then
 (if 17 ≤ (List.take 18 (r19 C i)).length then
 (if 17 ≤ (List.take 18 (r19 D i)).length then
 (if isBoolV (List.take 17 (List.take 18 (r19 C i)))[0]? = true then
 (if isBoolV (List.take 17 (List.take 18 (r19 D i)))[0]? = true then
 (if 17 ≤ (List.take 17 (List.take 18 (r19 C i))).length then
 (if 17 ≤ (List.take 17 (List.take 18 (r19 D i))).length then
 (if isIntV u8 (List.take 16 (List.drop 1 (List.take 17 (List.take 18 (r19 C i)))))[0]? = true then
 (if isIntV u8 (List.take 16 (List.drop 1 (List.take 17 (List.take 18 (r19 D i)))))[0]? = true then
 (if isIntV u8 (List.take 16 (List.drop 1 (List.take 17 (List.take 18 (r19 C i)))))[1]? = true then
 (if isIntV u8 (List.take 16 (List.drop 1 (List.take 17 (List.take 18 (r19 D i)))))[1]? = true then
 (if isIntV u8 (List.take 16 (List.drop 1 (List.take 17 (List.take 18 (r19 C i)))))[2]? = true then
 (if isIntV u8 (List.take 16 (List.drop 1 (List.take 17 (List.take 18 (r19 D i)))))[2]? = true then
 (if isIntV u8 (List.take 16 (List.drop 1 (List.take 17 (List.take 18 (r19 C i)))))[3]? = true then
 (if isIntV u8 (List.take 16 (List.drop 1 (List.take 17 (List.take 18 (r19 D i)))))[3]? = true then
 (if isIntV u8 (List.take 16 (List.drop 1 (List.take 17 (List.take 18 (r19 C i)))))[4]? = true then
 (if isIntV u8 (List.take 16 (List.drop 1 (List.take 17 (List.take 18 (r19 D i)))))[4]? = true then
 (if isIntV u8 (List.take 16 (List.drop 1 (List.take 17 (List.take 18 (r19 C i)))))[5]? = true then
 (if isIntV u8 (List.take 16 (List.drop 1 (List.take 17 (List.take 18 (r19 D i)))))[5]? = true then
 (if isIntV u8 (List.take 16 (List.drop 1 (List.take 17 (List.take 18 (r19 C i)))))[6]? = true then
 (if isIntV u8 (List.take 16 (List.drop 1 (List.take 17 (List.take 18 (r19 D i)))))[6]? = true then
 (if isIntV u8 (List.take 16 (List.drop 1 (List.take 17 (List.take 18 (r19 C i)))))[7]? = true then
 (if isIntV u8 (List.take 16 (List.drop 1 (List.take 17 (List.take 18 (r19 D i)))))[7]? = true then
 (if isIntV u8 (List.take 16 (List.drop 1 (List.take 17 (List.take 18 (r19 C i)))))[8]? = true then
 (if isIntV u8 (List.take 16 (List.drop 1 (List.take 17 (List.take 18 (r19 D i)))))[8]? = true then
 (if isIntV u8 (List.take 16 (List.drop 1 (List.take 17 (List.take 18 (r19 C i)))))[9]? = true then
 (if isIntV u8 (List.take 16 (List.drop 1 (List.take 17 (List.take 18 (r19 D i)))))[9]? = true then
 (if isIntV u8 (List.take 16 (List.drop 1 (List.take 17 (List.take 18 (r19 C i)))))[10]? = true then
 (if isIntV u8 (List.take 16 (List.drop 1 (List.take 17 (List.take 18 (r19 D i)))))[10]? = true then
 (if isIntV u8 (List.take 16 (List.drop 1 (List.take 17 (List.take 18 (r19 C i)))))[11]? = true then
 (if isIntV u8 (List.take 16 (List.drop 1 (List.take 17 (List.take 18 (r19 D i)))))[11]? = true then
 (if isIntV u8 (List.take 16 (List.drop 1 (List.take 17 (List.take 18 (r19 C i)))))[12]? = true then
 (if isIntV u8 (List.take 16 (List.drop 1 (List.take 17 (List.take 18 (r19 D i)))))[12]? = true then
 (if isIntV u8 (List.take 16 (List.drop 1 (List.take 17 (List.take 18 (r19 C i)))))[13]? = true then
 (if isIntV u8 (List.take 16 (List.drop 1 (List.take 17 (List.take 18 (r19 D i)))))[13]? = true then
 (if isIntV u8 (List.take 16 (List.drop 1 (List.take 17 (List.take 18 (r19 C i)))))[14]? = true then
 (if isIntV u8 (List.take 16 (List.drop 1 (List.take 17 (List.take 18 (r19 D i)))))[14]? = true then
 (if isIntV u8 (List.take 16 (List.drop 1 (List.take 17 (List.take 18 (r19 C i)))))[15]? = true then
 (if isIntV u8 (List.take 16 (List.drop 1 (List.take 17 (List.take 18 (r19 D i)))))[15]? = true then
 (if isIntV u16 (List.take 18 (r19 C i))[17]? = true then
 (if isIntV u16 (List.take 18 (r19 D i))[17]? = true then
 (if isIntV i64 (r19 C i)[18]? = true then
 (if isIntV i64 (r19 D i)[18]? = true then
 (if (!eqM (r19 C i) (r19 D i)) = true then
 some ((AEx.ret, [AV.ptr (some (2, 0)), AV.ptr (some (3, 0)), AV.bool false, int i64 i], (hScrD0 C D m n k pr w x po k1 pr1 w1 y po1 i)))
 else none) else none) else none) else none) else none) else none) else none) else none) else none) else none) else none) else none) else none) else none) else none) else none) else none) else none) else none) else none) else none) else none) else none) else none) else none) else none) else none) else none) else none) else none) else none) else none) else none) else none) else none) else none) else none) else none) else none) else none) else none) else none) else none) else none) else none) else none) else none) else none) else none) else none) := by
  kernel_rfl

noncomputable def hScrS0 (C D : List AV) (m n : Nat) (k pr : Int) (w : Bool) (x : Nat → Int) (po : Int) (k1 pr1 : Int) (w1 : Bool) (y : Nat → Int) (po1 : Int) (i : Int) : AHeap := [ABlk.cells C 19 Md.far none, ABlk.cells D 19 Md.far none, cells [int i64 k, b8 pr, AV.bool w, b8 (x 0), b8 (x 1), b8 (x 2), b8 (x 3), b8 (x 4), b8 (x 5), b8 (x 6), b8 (x 7), b8 (x 8), b8 (x 9), b8 (x 10), b8 (x 11), b8 (x 12), b8 (x 13), b8 (x 14), b8 (x 15), int u16 po, AV.sl (some (0, 0)) m 0 false] 21 Md.own none, cells [int i64 k1, b8 pr1, AV.bool w1, b8 (y 0), b8 (y 1), b8 (y 2), b8 (y 3), b8 (y 4), b8 (y 5), b8 (y 6), b8 (y 7), b8 (y 8), b8 (y 9), b8 (y 10), b8 (y 11), b8 (y 12), b8 (y 13), b8 (y 14), b8 (y 15), int u16 po1, AV.sl (some (1, 0)) n 0 false] 21 Md.own none]
theorem nfScrS (C D : List AV) (m n : Nat) (k pr : Int) (w : Bool) (x : Nat → Int) (po : Int) (k1 pr1 : Int) (w1 : Bool) (y : Nat → Int) (po1 : Int) (i : Int) :
 qround Try.prog [] 100 4 [(31, .bool false)] noT SCL mSc (vSc i) [.cells C 19 .far none, .cells D 19 .far none, .cells (cmA k pr w x po (.sl (some (0, 0)) m 0 false)) 21 .own none, .cells (cmA k1 pr1 w1 y po1 (.sl (some (1, 0)) n 0 false)) 21 .own none] =
 (if decide (i < (m : Int)) = false then
 some ((AEx.exit 0, [AV.ptr (some (2, 0)), AV.ptr (some (3, 0)), AV.bool false, int i64 i], (hScrS0 C D m n k pr w x po k1 pr1 w1 y po1 i)))
 else none) := by
  kernel_rfl


end Go.Proofs.Ytjlepcfeeicdfaa.L
