/- VipOf; CommandKinds: rows. -/
import Derived.Test.YtjlepcfeeicdfaaScK
import Derived.Test.YtjlepcfeeicdfaaAwake24
import Derived.Test.YtjlepcfeeicdfaaAddrB
set_option autoImplicit false
set_option maxRecDepth 100000
set_option linter.unusedVariables false
set_option linter.unusedSimpArgs false
namespace Go.Proofs.Ytjlepcfeeicdfaa.L
open Go Go.Abs
open Go.IntKind (u8 u16 u32 u64 i64)
open Go.Abs.AV (int)
open Go.Abs.ABlk (cells)
noncomputable def hVip00  : AHeap := [cells [b8 6, AV.bool false, b8 192, b8 168, b8 0, b8 1, b8 0, b8 0, b8 0, b8 0, b8 0, b8 0, b8 0, b8 0, b8 0, b8 0, b8 0, b8 0, int u16 80] 19 Md.own none, cells [b8 6, AV.bool false, b8 192, b8 168, b8 0, b8 1, b8 0, b8 0, b8 0, b8 0, b8 0, b8 0, b8 0, b8 0, b8 0, b8 0, b8 0, b8 0, int u16 80] 19 Md.own none]
theorem nfVip0 {R : Type} (K : AV → AHeap → Option R) :
 qrun Try.prog [] 100 4 [] [] 31 [.int .i64 0] [] K =
 K (AV.agg [b8 6, AV.bool false, b8 192, b8 168, b8 0, b8 1, b8 0, b8 0, b8 0, b8 0, b8 0, b8 0, b8 0, b8 0, b8 0, b8 0, b8 0, b8 0, int u16 80]) (hVip00) := by
  kernel_rfl

noncomputable def hVip10  : AHeap := [cells [b8 17, AV.bool false, b8 192, b8 168, b8 0, b8 1, b8 0, b8 0, b8 0, b8 0, b8 0, b8 0, b8 0, b8 0, b8 0, b8 0, b8 0, b8 0, int u16 80] 19 Md.own none, cells [b8 17, AV.bool false, b8 192, b8 168, b8 0, b8 1, b8 0, b8 0, b8 0, b8 0, b8 0, b8 0, b8 0, b8 0, b8 0, b8 0, b8 0, b8 0, int u16 80] 19 Md.own none]
theorem nfVip1 {R : Type} (K : AV → AHeap → Option R) :
 qrun Try.prog [] 100 4 [] [] 31 [.int .i64 1] [] K =
 K (AV.agg [b8 17, AV.bool false, b8 192, b8 168, b8 0, b8 1, b8 0, b8 0, b8 0, b8 0, b8 0, b8 0, b8 0, b8 0, b8 0, b8 0, b8 0, b8 0, int u16 80]) (hVip10) := by
  kernel_rfl

noncomputable def hVip20  : AHeap := [cells [b8 6, AV.bool true, b8 192, b8 168, b8 0, b8 1, b8 0, b8 0, b8 0, b8 0, b8 0, b8 0, b8 0, b8 0, b8 0, b8 0, b8 0, b8 0, int u16 80] 19 Md.own none, cells [b8 6, AV.bool true, b8 192, b8 168, b8 0, b8 1, b8 0, b8 0, b8 0, b8 0, b8 0, b8 0, b8 0, b8 0, b8 0, b8 0, b8 0, b8 0, int u16 80] 19 Md.own none]
theorem nfVip2 {R : Type} (K : AV → AHeap → Option R) :
 qrun Try.prog [] 100 4 [] [] 31 [.int .i64 2] [] K =
 K (AV.agg [b8 6, AV.bool true, b8 192, b8 168, b8 0, b8 1, b8 0, b8 0, b8 0, b8 0, b8 0, b8 0, b8 0, b8 0, b8 0, b8 0, b8 0, b8 0, int u16 80]) (hVip20) := by
  kernel_rfl

noncomputable def hVip30  : AHeap := [cells [b8 17, AV.bool true, b8 192, b8 168, b8 0, b8 1, b8 0, b8 0, b8 0, b8 0, b8 0, b8 0, b8 0, b8 0, b8 0, b8 0, b8 0, b8 0, int u16 80] 19 Md.own none, cells [b8 17, AV.bool true, b8 192, b8 168, b8 0, b8 1, b8 0, b8 0, b8 0, b8 0, b8 0, b8 0, b8 0, b8 0, b8 0, b8 0, b8 0, b8 0, int u16 80] 19 Md.own none]
theorem nfVip3 {R : Type} (K : AV → AHeap → Option R) :
 qrun Try.prog [] 100 4 [] [] 31 [.int .i64 3] [] K =
 K (AV.agg [b8 17, AV.bool true, b8 192, b8 168, b8 0, b8 1, b8 0, b8 0, b8 0, b8 0, b8 0, b8 0, b8 0, b8 0, b8 0, b8 0, b8 0, b8 0, int u16 80]) (hVip30) := by
  kernel_rfl

def vpr (q : Int) : Int := if q % 2 = 1 then 17 else 6
def vw (q : Int) : Bool := decide (2 ≤ q)
def vx (i : Nat) : Int := if i = 0 then 192 else if i = 1 then 168 else if i = 2 then 0 else if i = 3 then 1 else 0
def vipL (q : Int) : List AV := .int .u8 (vpr q) :: (adF (vw q) vx ++ [.int .u16 80])
def eVip : GEnt := fun args h => match args with
  | [.int .i64 q] => some (decide (0 ≤ q ∧ q < 4), .agg (vipL q), h)
  | _ => none
def eVof : GEnt := fun args h => match args with
  | [.int .i64 n] => some (true, .agg (vipL (n % 4)), h)
  | _ => none
noncomputable def tVo (v : AV) : Tbl := [(31, entF (eSay eVip [(1, v, [])]))]
noncomputable def hVo0 (n pr : Int) (w : Bool) (x : Nat → Int) (po : Int) : AHeap := [cells [b8 0, AV.bool false, b8 0, b8 0, b8 0, b8 0, b8 0, b8 0, b8 0, b8 0, b8 0, b8 0, b8 0, b8 0, b8 0, b8 0, b8 0, b8 0, int u16 0] 19 Md.own none]
noncomputable def hVo1 (n pr : Int) (w : Bool) (x : Nat → Int) (po : Int) : AHeap := []
noncomputable def hVo2 (n pr : Int) (w : Bool) (x : Nat → Int) (po : Int) : AHeap := [cells [b8 pr, AV.bool w, b8 (x 0), b8 (x 1), b8 (x 2), b8 (x 3), b8 (x 4), b8 (x 5), b8 (x 6), b8 (x 7), b8 (x 8), b8 (x 9), b8 (x 10), b8 (x 11), b8 (x 12), b8 (x 13), b8 (x 14), b8 (x 15), int u16 po] 19 Md.own none]
theorem nfVo {R : Type} (n pr : Int) (w : Bool) (x : Nat → Int) (po : Int) (K : AV → AHeap → Option R) :
 qrun Try.prog (tVo (.agg (.int .u8 pr :: (adF w x ++ [.int .u16 po])))) 100 4 [] [] 19 [.int .i64 n] [] K =
 (if cdec (Says eVip [int i64 ((i64.wrap (n.tmod 4 + 4)).tmod 4)] (hVo0 n pr w x po) (AV.agg [b8 pr, AV.bool w, b8 (x 0), b8 (x 1), b8 (x 2), b8 (x 3), b8 (x 4), b8 (x 5), b8 (x 6), b8 (x 7), b8 (x 8), b8 (x 9), b8 (x 10), b8 (x 11), b8 (x 12), b8 (x 13), b8 (x 14), b8 (x 15), int u16 po]) (hVo1 n pr w x po)) = true then
 K (AV.agg [b8 pr, AV.bool w, b8 (x 0), b8 (x 1), b8 (x 2), b8 (x 3), b8 (x 4), b8 (x 5), b8 (x 6), b8 (x 7), b8 (x 8), b8 (x 9), b8 (x 10), b8 (x 11), b8 (x 12), b8 (x 13), b8 (x 14), b8 (x 15), int u16 po]) ((hVo2 n pr w x po))
 else none) := by
  kernel_rfl


noncomputable def tCK (v : AV) (e : Int) (Z : List UInt8) : Tbl := [(19, entF (eSay eVof [(0, v, [])])), (10, entF (eRel EnR [(2, .tup [slB 2 Z, .int .i64 e], [ownB Z])])), (7, entF eAwake)]
noncomputable def tDp : Tbl := [(21, entF eDip)]
noncomputable abbrev CKL := loopIn (bodyOf Try.prog 6) 0
def mCK : List Bool := [true, false, true, true, false, false, false, false, false, true, true] ++ List.replicate 115 false
def vCK (k n wt i : Int) : List AV := [.int .i64 k, .int .i64 n, .int .i64 wt, .ptr (some (0, 0)), .int .i64 i]
def hCK (k pr : Int) (w : Bool) (x : Nat → Int) (po : Int) (C : List AV) (m : Nat) : AHeap := [.cells (cmA k pr w x po (.sl (some (1, 0)) m 0 false)) 21 .own none, .cells C 19 .own none]
noncomputable def hCKrR0 (k n wt i : Int) (pr : Int) (w : Bool) (x : Nat → Int) (po : Int) (C : List AV) (m : Nat) : AHeap := [cells [int i64 k, b8 pr, AV.bool w, b8 (x 0), b8 (x 1), b8 (x 2), b8 (x 3), b8 (x 4), b8 (x 5), b8 (x 6), b8 (x 7), b8 (x 8), b8 (x 9), b8 (x 10), b8 (x 11), b8 (x 12), b8 (x 13), b8 (x 14), b8 (x 15), int u16 po, AV.sl (some (3, 0)) (m + 1) 0 false] 21 Md.own none, ABlk.cells C 19 Md.ro none, cells [AV.bool (boolV (some (AV.bool w))), b8 172, b8 16, b8 0, b8 (db3 i), b8 0, b8 0, b8 0, b8 0, b8 0, b8 0, b8 0, b8 0, b8 0, b8 0, b8 0, b8 0, int u16 (dport i), int i64 wt] 19 Md.own none, cells (List.take (m * 19) C ++ [AV.bool (boolV (some (AV.bool w))), b8 172, b8 16, b8 0, b8 (db3 i), b8 0, b8 0, b8 0, b8 0, b8 0, b8 0, b8 0, b8 0, b8 0, b8 0, b8 0, b8 0, int u16 (dport i), int i64 wt]) 19 Md.own (some 1)]
theorem nfCKrR (k n wt i : Int) (pr : Int) (w : Bool) (x : Nat → Int) (po : Int) (C : List AV) (m : Nat) :
 qround Try.prog tDp 100 4 [(29, .bool true)] noT CKL mCK (vCK k n wt i) (hCK k pr w x po C m) =
 (if decide (i < n) = true then
 (if (2 * (m + 1) + 200) * 32 ≤ 281474976710656 ∧ some 19 = some 19 ∧ m + 1 ≤ 70368744177664 then
 (if 0 + m * 19 ≤ C.length then
 (if 0 = 0 ∧ 0 + m * 19 = C.length ∧ (0 < 1 ∨ 0 = 0) ∧ 19 = 19 ∧ [AV.bool (boolV (some (AV.bool w))), b8 172, b8 16, b8 0, b8 (db3 i), b8 0, b8 0, b8 0, b8 0, b8 0, b8 0, b8 0, b8 0, b8 0, b8 0, b8 0, b8 0, int u16 (dport i), int i64 wt].all AV.isCell = true then
 (if (AV.sl (some (1, 0)) m 0 false).beq (AV.sl (some (1, 0)) m 0 false) = true then
 some ((AEx.norm, [int i64 k, int i64 n, int i64 wt, AV.ptr (some (0, 0)), int i64 (i64.wrap (i + 1))], (hCKrR0 k n wt i pr w x po C m)))
 else none) else none) else none) else none) else none) := by
  kernel_rfl

noncomputable def hCKrS0 (k n wt i : Int) (pr : Int) (w : Bool) (x : Nat → Int) (po : Int) (C : List AV) (m : Nat) : AHeap := [cells [int i64 k, b8 pr, AV.bool w, b8 (x 0), b8 (x 1), b8 (x 2), b8 (x 3), b8 (x 4), b8 (x 5), b8 (x 6), b8 (x 7), b8 (x 8), b8 (x 9), b8 (x 10), b8 (x 11), b8 (x 12), b8 (x 13), b8 (x 14), b8 (x 15), int u16 po, AV.sl (some (1, 0)) m 0 false] 21 Md.own none, ABlk.cells C 19 Md.own none]
theorem nfCKrS (k n wt i : Int) (pr : Int) (w : Bool) (x : Nat → Int) (po : Int) (C : List AV) (m : Nat) :
 qround Try.prog tDp 100 4 [(29, .bool false)] noT CKL mCK (vCK k n wt i) (hCK k pr w x po C m) =
 (if decide (i < n) = false then
 some ((AEx.exit 0, [int i64 k, int i64 n, int i64 wt, AV.ptr (some (0, 0)), int i64 i], (hCKrS0 k n wt i pr w x po C m)))
 else none) := by
  kernel_rfl

noncomputable def hCKx0 (k vip n wt : Int) : AHeap := []
theorem nfCKx {R : Type} (k vip n wt : Int) (K : AV → AHeap → Option R) :
 qrun Try.prog (tCK (.bool true) 0 []) 100 4 [(21, .bool true)] [] 6 [.int .i64 k, .int .i64 vip, .int .i64 n, .int .i64 wt] [] K =
 (if decide (n < 0) = true then
 K (AV.bool true) ((hCKx0 k vip n wt))
 else (if decide (n > 20) = true then
 K (AV.bool true) ((hCKx0 k vip n wt))
 else none)) := by
  kernel_rfl

noncomputable def hCK1g0 (vip wt : Int) (n : Nat) (pr : Int) (w : Bool) (x : Nat → Int) (po : Int) (Z : List UInt8) (C : List AV) (q : Prop) (vs0 : List AV) (h0 : AHeap) : AHeap := []
noncomputable def hCK1g1 (vip wt : Int) (n : Nat) (pr : Int) (w : Bool) (x : Nat → Int) (po : Int) (Z : List UInt8) (C : List AV) (q : Prop) (vs0 : List AV) (h0 : AHeap) : AHeap := [cells [int i64 1, b8 pr, AV.bool w, b8 (x 0), b8 (x 1), b8 (x 2), b8 (x 3), b8 (x 4), b8 (x 5), b8 (x 6), b8 (x 7), b8 (x 8), b8 (x 9), b8 (x 10), b8 (x 11), b8 (x 12), b8 (x 13), b8 (x 14), b8 (x 15), int u16 po, AV.sl none 0 0 true] 21 Md.own none]
noncomputable def hCK1g2 (vip wt : Int) (n : Nat) (pr : Int) (w : Bool) (x : Nat → Int) (po : Int) (Z : List UInt8) (C : List AV) (q : Prop) (vs0 : List AV) (h0 : AHeap) : AHeap := [cells [int i64 1, b8 pr, AV.bool w, b8 (x 0), b8 (x 1), b8 (x 2), b8 (x 3), b8 (x 4), b8 (x 5), b8 (x 6), b8 (x 7), b8 (x 8), b8 (x 9), b8 (x 10), b8 (x 11), b8 (x 12), b8 (x 13), b8 (x 14), b8 (x 15), int u16 po, AV.sl (some (1, 0)) n 0 false] 21 Md.own none, ABlk.cells C 19 Md.own none]
noncomputable def hCK1g3 (vip wt : Int) (n : Nat) (pr : Int) (w : Bool) (x : Nat → Int) (po : Int) (Z : List UInt8) (C : List AV) (q : Prop) (vs0 : List AV) (h0 : AHeap) : AHeap := [cells (bys Z) 1 Md.own none]
noncomputable def hCK1g4 (vip wt : Int) (n : Nat) (pr : Int) (w : Bool) (x : Nat → Int) (po : Int) (Z : List UInt8) (C : List AV) (q : Prop) (vs0 : List AV) (h0 : AHeap) : AHeap := [cells [int i64 1, b8 pr, AV.bool w, b8 (x 0), b8 (x 1), b8 (x 2), b8 (x 3), b8 (x 4), b8 (x 5), b8 (x 6), b8 (x 7), b8 (x 8), b8 (x 9), b8 (x 10), b8 (x 11), b8 (x 12), b8 (x 13), b8 (x 14), b8 (x 15), int u16 po, AV.sl (some (1, 0)) n 0 false] 21 Md.own none, ABlk.cells C 19 Md.own none, cells (bys Z) 1 Md.own none]
theorem nfCK1g {R : Type} (vip wt : Int) (n : Nat) (pr : Int) (w : Bool) (x : Nat → Int) (po : Int) (Z : List UInt8) (C : List AV) (q : Prop) (vs0 : List AV) (h0 : AHeap) (K : AV → AHeap → Option R) :
 qrun Try.prog (tCK (.agg (.int .u8 pr :: (adF w x ++ [.int .u16 po]))) 0 Z) 100 4 [(21, .bool false), (89, .bool false), (121, .bool true)] [(5, fixC q mCK vs0 h0 (.exit 0) (vCK 1 n wt n) (hCK 1 pr w x po C n))] 6 [.int .i64 1, .int .i64 vip, .int .i64 n, .int .i64 wt] [] K =
 (if decide ((n : Int) > 20) = false then
 (if cdec (Says eVof [int i64 vip] (hCK1g0 vip wt n pr w x po Z C q vs0 h0) (AV.agg [b8 pr, AV.bool w, b8 (x 0), b8 (x 1), b8 (x 2), b8 (x 3), b8 (x 4), b8 (x 5), b8 (x 6), b8 (x 7), b8 (x 8), b8 (x 9), b8 (x 10), b8 (x 11), b8 (x 12), b8 (x 13), b8 (x 14), b8 (x 15), int u16 po]) (hCK1g0 vip wt n pr w x po Z C q vs0 h0)) = true then
 (if cdec (q ∧ [int i64 1, int i64 (n : Int), int i64 wt, AV.ptr (some (0, 0)), int i64 0] = vs0 ∧ (hCK1g1 vip wt n pr w x po Z C q vs0 h0) = h0) = true then
 (if ((n : Int) == 0) = true then
 (if cdec (EnR [AV.agg [int i64 1, b8 pr, AV.bool w, b8 (x 0), b8 (x 1), b8 (x 2), b8 (x 3), b8 (x 4), b8 (x 5), b8 (x 6), b8 (x 7), b8 (x 8), b8 (x 9), b8 (x 10), b8 (x 11), b8 (x 12), b8 (x 13), b8 (x 14), b8 (x 15), int u16 po, AV.sl (some (1, 0)) n 0 false]] (hCK1g2 vip wt n pr w x po Z C q vs0 h0) (AV.tup [AV.sl (some (2, 0)) Z.length 0 false, int i64 0]) (hCK1g3 vip wt n pr w x po Z C q vs0 h0)) = true then
 (if boolV (some (AV.bool w)) = true then
 (if ((Z.length : Int) == i64.wrap (22 + i64.wrap ((n : Int) * 20))) = true then
 K (AV.bool true) ((hCK1g4 vip wt n pr w x po Z C q vs0 h0))
 else none)
 else (if ((Z.length : Int) == i64.wrap (10 + i64.wrap ((n : Int) * 8))) = true then
 K (AV.bool true) ((hCK1g4 vip wt n pr w x po Z C q vs0 h0))
 else none))
 else none)
 else (if decide (wt ≥ 0) = true then
 (if cdec (EnR [AV.agg [int i64 1, b8 pr, AV.bool w, b8 (x 0), b8 (x 1), b8 (x 2), b8 (x 3), b8 (x 4), b8 (x 5), b8 (x 6), b8 (x 7), b8 (x 8), b8 (x 9), b8 (x 10), b8 (x 11), b8 (x 12), b8 (x 13), b8 (x 14), b8 (x 15), int u16 po, AV.sl (some (1, 0)) n 0 false]] (hCK1g2 vip wt n pr w x po Z C q vs0 h0) (AV.tup [AV.sl (some (2, 0)) Z.length 0 false, int i64 0]) (hCK1g3 vip wt n pr w x po Z C q vs0 h0)) = true then
 (if (!decide (wt ≤ 255)) = false then
 (if boolV (some (AV.bool w)) = true then
 (if ((Z.length : Int) == i64.wrap (22 + i64.wrap ((n : Int) * 20))) = true then
 K (AV.bool true) ((hCK1g4 vip wt n pr w x po Z C q vs0 h0))
 else none)
 else (if ((Z.length : Int) == i64.wrap (10 + i64.wrap ((n : Int) * 8))) = true then
 K (AV.bool true) ((hCK1g4 vip wt n pr w x po Z C q vs0 h0))
 else none))
 else none) else none)
 else (if cdec (EnR [AV.agg [int i64 1, b8 pr, AV.bool w, b8 (x 0), b8 (x 1), b8 (x 2), b8 (x 3), b8 (x 4), b8 (x 5), b8 (x 6), b8 (x 7), b8 (x 8), b8 (x 9), b8 (x 10), b8 (x 11), b8 (x 12), b8 (x 13), b8 (x 14), b8 (x 15), int u16 po, AV.sl (some (1, 0)) n 0 false]] (hCK1g2 vip wt n pr w x po Z C q vs0 h0) (AV.tup [AV.sl (some (2, 0)) Z.length 0 false, int i64 0]) (hCK1g3 vip wt n pr w x po Z C q vs0 h0)) = true then
 none
 else none)))
 else none) else none) else none) := by
  kernel_rfl

noncomputable def hCK1b0 (vip wt : Int) (n : Nat) (pr : Int) (w : Bool) (x : Nat → Int) (po : Int) (Z : List UInt8) (C : List AV) (q : Prop) (vs0 : List AV) (h0 : AHeap) : AHeap := []
noncomputable def hCK1b1 (vip wt : Int) (n : Nat) (pr : Int) (w : Bool) (x : Nat → Int) (po : Int) (Z : List UInt8) (C : List AV) (q : Prop) (vs0 : List AV) (h0 : AHeap) : AHeap := [cells [int i64 1, b8 pr, AV.bool w, b8 (x 0), b8 (x 1), b8 (x 2), b8 (x 3), b8 (x 4), b8 (x 5), b8 (x 6), b8 (x 7), b8 (x 8), b8 (x 9), b8 (x 10), b8 (x 11), b8 (x 12), b8 (x 13), b8 (x 14), b8 (x 15), int u16 po, AV.sl none 0 0 true] 21 Md.own none]
noncomputable def hCK1b2 (vip wt : Int) (n : Nat) (pr : Int) (w : Bool) (x : Nat → Int) (po : Int) (Z : List UInt8) (C : List AV) (q : Prop) (vs0 : List AV) (h0 : AHeap) : AHeap := [cells [int i64 1, b8 pr, AV.bool w, b8 (x 0), b8 (x 1), b8 (x 2), b8 (x 3), b8 (x 4), b8 (x 5), b8 (x 6), b8 (x 7), b8 (x 8), b8 (x 9), b8 (x 10), b8 (x 11), b8 (x 12), b8 (x 13), b8 (x 14), b8 (x 15), int u16 po, AV.sl (some (1, 0)) n 0 false] 21 Md.own none, ABlk.cells C 19 Md.own none]
noncomputable def hCK1b3 (vip wt : Int) (n : Nat) (pr : Int) (w : Bool) (x : Nat → Int) (po : Int) (Z : List UInt8) (C : List AV) (q : Prop) (vs0 : List AV) (h0 : AHeap) : AHeap := [cells [] 1 Md.own none]
noncomputable def hCK1b4 (vip wt : Int) (n : Nat) (pr : Int) (w : Bool) (x : Nat → Int) (po : Int) (Z : List UInt8) (C : List AV) (q : Prop) (vs0 : List AV) (h0 : AHeap) : AHeap := [cells [int i64 1, b8 pr, AV.bool w, b8 (x 0), b8 (x 1), b8 (x 2), b8 (x 3), b8 (x 4), b8 (x 5), b8 (x 6), b8 (x 7), b8 (x 8), b8 (x 9), b8 (x 10), b8 (x 11), b8 (x 12), b8 (x 13), b8 (x 14), b8 (x 15), int u16 po, AV.sl (some (1, 0)) n 0 false] 21 Md.own none, ABlk.cells C 19 Md.own none, cells [] 1 Md.own none]
theorem nfCK1b {R : Type} (vip wt : Int) (n : Nat) (pr : Int) (w : Bool) (x : Nat → Int) (po : Int) (Z : List UInt8) (C : List AV) (q : Prop) (vs0 : List AV) (h0 : AHeap) (K : AV → AHeap → Option R) :
 qrun Try.prog (tCK (.agg (.int .u8 pr :: (adF w x ++ [.int .u16 po]))) 2 []) 100 4 [(21, .bool false), (89, .bool true)] [(5, fixC q mCK vs0 h0 (.exit 0) (vCK 1 n wt n) (hCK 1 pr w x po C n))] 6 [.int .i64 1, .int .i64 vip, .int .i64 n, .int .i64 wt] [] K =
 (if decide ((n : Int) > 20) = false then
 (if cdec (Says eVof [int i64 vip] (hCK1b0 vip wt n pr w x po Z C q vs0 h0) (AV.agg [b8 pr, AV.bool w, b8 (x 0), b8 (x 1), b8 (x 2), b8 (x 3), b8 (x 4), b8 (x 5), b8 (x 6), b8 (x 7), b8 (x 8), b8 (x 9), b8 (x 10), b8 (x 11), b8 (x 12), b8 (x 13), b8 (x 14), b8 (x 15), int u16 po]) (hCK1b0 vip wt n pr w x po Z C q vs0 h0)) = true then
 (if cdec (q ∧ [int i64 1, int i64 (n : Int), int i64 wt, AV.ptr (some (0, 0)), int i64 0] = vs0 ∧ (hCK1b1 vip wt n pr w x po Z C q vs0 h0) = h0) = true then
 (if ((n : Int) == 0) = true then
 (if cdec (EnR [AV.agg [int i64 1, b8 pr, AV.bool w, b8 (x 0), b8 (x 1), b8 (x 2), b8 (x 3), b8 (x 4), b8 (x 5), b8 (x 6), b8 (x 7), b8 (x 8), b8 (x 9), b8 (x 10), b8 (x 11), b8 (x 12), b8 (x 13), b8 (x 14), b8 (x 15), int u16 po, AV.sl (some (1, 0)) n 0 false]] (hCK1b2 vip wt n pr w x po Z C q vs0 h0) (AV.tup [AV.sl (some (2, 0)) 0 0 false, int i64 2]) (hCK1b3 vip wt n pr w x po Z C q vs0 h0)) = true then
 none
 else none)
 else (if decide (wt ≥ 0) = true then
 (if cdec (EnR [AV.agg [int i64 1, b8 pr, AV.bool w, b8 (x 0), b8 (x 1), b8 (x 2), b8 (x 3), b8 (x 4), b8 (x 5), b8 (x 6), b8 (x 7), b8 (x 8), b8 (x 9), b8 (x 10), b8 (x 11), b8 (x 12), b8 (x 13), b8 (x 14), b8 (x 15), int u16 po, AV.sl (some (1, 0)) n 0 false]] (hCK1b2 vip wt n pr w x po Z C q vs0 h0) (AV.tup [AV.sl (some (2, 0)) 0 0 false, int i64 2]) (hCK1b3 vip wt n pr w x po Z C q vs0 h0)) = true then
 (if (!decide (wt ≤ 255)) = true then
 K (AV.bool true) ((hCK1b4 vip wt n pr w x po Z C q vs0 h0))
 else none) else none)
 else (if cdec (EnR [AV.agg [int i64 1, b8 pr, AV.bool w, b8 (x 0), b8 (x 1), b8 (x 2), b8 (x 3), b8 (x 4), b8 (x 5), b8 (x 6), b8 (x 7), b8 (x 8), b8 (x 9), b8 (x 10), b8 (x 11), b8 (x 12), b8 (x 13), b8 (x 14), b8 (x 15), int u16 po, AV.sl (some (1, 0)) n 0 false]] (hCK1b2 vip wt n pr w x po Z C q vs0 h0) (AV.tup [AV.sl (some (2, 0)) 0 0 false, int i64 2]) (hCK1b3 vip wt n pr w x po Z C q vs0 h0)) = true then
 K (AV.bool true) ((hCK1b4 vip wt n pr w x po Z C q vs0 h0))
 else none)))
 else none) else none) else none) := by
  kernel_rfl

noncomputable def hCK2g0 (vip wt : Int) (n : Nat) (pr : Int) (w : Bool) (x : Nat → Int) (po : Int) (Z : List UInt8) (C : List AV) (q : Prop) (vs0 : List AV) (h0 : AHeap) : AHeap := []
noncomputable def hCK2g1 (vip wt : Int) (n : Nat) (pr : Int) (w : Bool) (x : Nat → Int) (po : Int) (Z : List UInt8) (C : List AV) (q : Prop) (vs0 : List AV) (h0 : AHeap) : AHeap := [cells [int i64 2, b8 pr, AV.bool w, b8 (x 0), b8 (x 1), b8 (x 2), b8 (x 3), b8 (x 4), b8 (x 5), b8 (x 6), b8 (x 7), b8 (x 8), b8 (x 9), b8 (x 10), b8 (x 11), b8 (x 12), b8 (x 13), b8 (x 14), b8 (x 15), int u16 po, AV.sl none 0 0 true] 21 Md.own none]
noncomputable def hCK2g2 (vip wt : Int) (n : Nat) (pr : Int) (w : Bool) (x : Nat → Int) (po : Int) (Z : List UInt8) (C : List AV) (q : Prop) (vs0 : List AV) (h0 : AHeap) : AHeap := [cells [int i64 2, b8 pr, AV.bool w, b8 (x 0), b8 (x 1), b8 (x 2), b8 (x 3), b8 (x 4), b8 (x 5), b8 (x 6), b8 (x 7), b8 (x 8), b8 (x 9), b8 (x 10), b8 (x 11), b8 (x 12), b8 (x 13), b8 (x 14), b8 (x 15), int u16 po, AV.sl (some (1, 0)) n 0 false] 21 Md.own none, ABlk.cells C 19 Md.own none]
noncomputable def hCK2g3 (vip wt : Int) (n : Nat) (pr : Int) (w : Bool) (x : Nat → Int) (po : Int) (Z : List UInt8) (C : List AV) (q : Prop) (vs0 : List AV) (h0 : AHeap) : AHeap := [cells (bys Z) 1 Md.own none]
noncomputable def hCK2g4 (vip wt : Int) (n : Nat) (pr : Int) (w : Bool) (x : Nat → Int) (po : Int) (Z : List UInt8) (C : List AV) (q : Prop) (vs0 : List AV) (h0 : AHeap) : AHeap := [cells [int i64 2, b8 pr, AV.bool w, b8 (x 0), b8 (x 1), b8 (x 2), b8 (x 3), b8 (x 4), b8 (x 5), b8 (x 6), b8 (x 7), b8 (x 8), b8 (x 9), b8 (x 10), b8 (x 11), b8 (x 12), b8 (x 13), b8 (x 14), b8 (x 15), int u16 po, AV.sl (some (1, 0)) n 0 false] 21 Md.own none, ABlk.cells C 19 Md.own none, cells (bys Z) 1 Md.own none]
theorem nfCK2g {R : Type} (vip wt : Int) (n : Nat) (pr : Int) (w : Bool) (x : Nat → Int) (po : Int) (Z : List UInt8) (C : List AV) (q : Prop) (vs0 : List AV) (h0 : AHeap) (K : AV → AHeap → Option R) :
 qrun Try.prog (tCK (.agg (.int .u8 pr :: (adF w x ++ [.int .u16 po]))) 0 Z) 100 4 [(21, .bool false), (89, .bool false), (121, .bool true)] [(5, fixC q mCK vs0 h0 (.exit 0) (vCK 2 n wt n) (hCK 2 pr w x po C n))] 6 [.int .i64 2, .int .i64 vip, .int .i64 n, .int .i64 wt] [] K =
 (if decide ((n : Int) > 20) = false then
 (if cdec (Says eVof [int i64 vip] (hCK2g0 vip wt n pr w x po Z C q vs0 h0) (AV.agg [b8 pr, AV.bool w, b8 (x 0), b8 (x 1), b8 (x 2), b8 (x 3), b8 (x 4), b8 (x 5), b8 (x 6), b8 (x 7), b8 (x 8), b8 (x 9), b8 (x 10), b8 (x 11), b8 (x 12), b8 (x 13), b8 (x 14), b8 (x 15), int u16 po]) (hCK2g0 vip wt n pr w x po Z C q vs0 h0)) = true then
 (if cdec (q ∧ [int i64 2, int i64 (n : Int), int i64 wt, AV.ptr (some (0, 0)), int i64 0] = vs0 ∧ (hCK2g1 vip wt n pr w x po Z C q vs0 h0) = h0) = true then
 (if cdec (EnR [AV.agg [int i64 2, b8 pr, AV.bool w, b8 (x 0), b8 (x 1), b8 (x 2), b8 (x 3), b8 (x 4), b8 (x 5), b8 (x 6), b8 (x 7), b8 (x 8), b8 (x 9), b8 (x 10), b8 (x 11), b8 (x 12), b8 (x 13), b8 (x 14), b8 (x 15), int u16 po, AV.sl (some (1, 0)) n 0 false]] (hCK2g2 vip wt n pr w x po Z C q vs0 h0) (AV.tup [AV.sl (some (2, 0)) Z.length 0 false, int i64 0]) (hCK2g3 vip wt n pr w x po Z C q vs0 h0)) = true then
 (if (!(n : Int) == 0) = false then
 (if boolV (some (AV.bool w)) = true then
 (if ((Z.length : Int) == 21) = true then
 K (AV.bool true) ((hCK2g4 vip wt n pr w x po Z C q vs0 h0))
 else none)
 else (if ((Z.length : Int) == 9) = true then
 K (AV.bool true) ((hCK2g4 vip wt n pr w x po Z C q vs0 h0))
 else none))
 else none) else none) else none) else none) else none) := by
  kernel_rfl

noncomputable def hCK2b0 (vip wt : Int) (n : Nat) (pr : Int) (w : Bool) (x : Nat → Int) (po : Int) (Z : List UInt8) (C : List AV) (q : Prop) (vs0 : List AV) (h0 : AHeap) : AHeap := []
noncomputable def hCK2b1 (vip wt : Int) (n : Nat) (pr : Int) (w : Bool) (x : Nat → Int) (po : Int) (Z : List UInt8) (C : List AV) (q : Prop) (vs0 : List AV) (h0 : AHeap) : AHeap := [cells [int i64 2, b8 pr, AV.bool w, b8 (x 0), b8 (x 1), b8 (x 2), b8 (x 3), b8 (x 4), b8 (x 5), b8 (x 6), b8 (x 7), b8 (x 8), b8 (x 9), b8 (x 10), b8 (x 11), b8 (x 12), b8 (x 13), b8 (x 14), b8 (x 15), int u16 po, AV.sl none 0 0 true] 21 Md.own none]
noncomputable def hCK2b2 (vip wt : Int) (n : Nat) (pr : Int) (w : Bool) (x : Nat → Int) (po : Int) (Z : List UInt8) (C : List AV) (q : Prop) (vs0 : List AV) (h0 : AHeap) : AHeap := [cells [int i64 2, b8 pr, AV.bool w, b8 (x 0), b8 (x 1), b8 (x 2), b8 (x 3), b8 (x 4), b8 (x 5), b8 (x 6), b8 (x 7), b8 (x 8), b8 (x 9), b8 (x 10), b8 (x 11), b8 (x 12), b8 (x 13), b8 (x 14), b8 (x 15), int u16 po, AV.sl (some (1, 0)) n 0 false] 21 Md.own none, ABlk.cells C 19 Md.own none]
noncomputable def hCK2b3 (vip wt : Int) (n : Nat) (pr : Int) (w : Bool) (x : Nat → Int) (po : Int) (Z : List UInt8) (C : List AV) (q : Prop) (vs0 : List AV) (h0 : AHeap) : AHeap := [cells [] 1 Md.own none]
noncomputable def hCK2b4 (vip wt : Int) (n : Nat) (pr : Int) (w : Bool) (x : Nat → Int) (po : Int) (Z : List UInt8) (C : List AV) (q : Prop) (vs0 : List AV) (h0 : AHeap) : AHeap := [cells [int i64 2, b8 pr, AV.bool w, b8 (x 0), b8 (x 1), b8 (x 2), b8 (x 3), b8 (x 4), b8 (x 5), b8 (x 6), b8 (x 7), b8 (x 8), b8 (x 9), b8 (x 10), b8 (x 11), b8 (x 12), b8 (x 13), b8 (x 14), b8 (x 15), int u16 po, AV.sl (some (1, 0)) n 0 false] 21 Md.own none, ABlk.cells C 19 Md.own none, cells [] 1 Md.own none]
theorem nfCK2b {R : Type} (vip wt : Int) (n : Nat) (pr : Int) (w : Bool) (x : Nat → Int) (po : Int) (Z : List UInt8) (C : List AV) (q : Prop) (vs0 : List AV) (h0 : AHeap) (K : AV → AHeap → Option R) :
 qrun Try.prog (tCK (.agg (.int .u8 pr :: (adF w x ++ [.int .u16 po]))) 2 []) 100 4 [(21, .bool false), (89, .bool true)] [(5, fixC q mCK vs0 h0 (.exit 0) (vCK 2 n wt n) (hCK 2 pr w x po C n))] 6 [.int .i64 2, .int .i64 vip, .int .i64 n, .int .i64 wt] [] K =
 (if decide ((n : Int) > 20) = false then
 (if cdec (Says eVof [int i64 vip] (hCK2b0 vip wt n pr w x po Z C q vs0 h0) (AV.agg [b8 pr, AV.bool w, b8 (x 0), b8 (x 1), b8 (x 2), b8 (x 3), b8 (x 4), b8 (x 5), b8 (x 6), b8 (x 7), b8 (x 8), b8 (x 9), b8 (x 10), b8 (x 11), b8 (x 12), b8 (x 13), b8 (x 14), b8 (x 15), int u16 po]) (hCK2b0 vip wt n pr w x po Z C q vs0 h0)) = true then
 (if cdec (q ∧ [int i64 2, int i64 (n : Int), int i64 wt, AV.ptr (some (0, 0)), int i64 0] = vs0 ∧ (hCK2b1 vip wt n pr w x po Z C q vs0 h0) = h0) = true then
 (if cdec (EnR [AV.agg [int i64 2, b8 pr, AV.bool w, b8 (x 0), b8 (x 1), b8 (x 2), b8 (x 3), b8 (x 4), b8 (x 5), b8 (x 6), b8 (x 7), b8 (x 8), b8 (x 9), b8 (x 10), b8 (x 11), b8 (x 12), b8 (x 13), b8 (x 14), b8 (x 15), int u16 po, AV.sl (some (1, 0)) n 0 false]] (hCK2b2 vip wt n pr w x po Z C q vs0 h0) (AV.tup [AV.sl (some (2, 0)) 0 0 false, int i64 2]) (hCK2b3 vip wt n pr w x po Z C q vs0 h0)) = true then
 (if (!(n : Int) == 0) = true then
 K (AV.bool true) ((hCK2b4 vip wt n pr w x po Z C q vs0 h0))
 else none) else none) else none) else none) else none) := by
  kernel_rfl

noncomputable def hCK3g0 (vip wt : Int) (n : Nat) (pr : Int) (w : Bool) (x : Nat → Int) (po : Int) (Z : List UInt8) (C : List AV) (q : Prop) (vs0 : List AV) (h0 : AHeap) : AHeap := []
noncomputable def hCK3g1 (vip wt : Int) (n : Nat) (pr : Int) (w : Bool) (x : Nat → Int) (po : Int) (Z : List UInt8) (C : List AV) (q : Prop) (vs0 : List AV) (h0 : AHeap) : AHeap := [cells [int i64 3, b8 pr, AV.bool w, b8 (x 0), b8 (x 1), b8 (x 2), b8 (x 3), b8 (x 4), b8 (x 5), b8 (x 6), b8 (x 7), b8 (x 8), b8 (x 9), b8 (x 10), b8 (x 11), b8 (x 12), b8 (x 13), b8 (x 14), b8 (x 15), int u16 po, AV.sl none 0 0 true] 21 Md.own none]
noncomputable def hCK3g2 (vip wt : Int) (n : Nat) (pr : Int) (w : Bool) (x : Nat → Int) (po : Int) (Z : List UInt8) (C : List AV) (q : Prop) (vs0 : List AV) (h0 : AHeap) : AHeap := [cells [int i64 3, b8 pr, AV.bool w, b8 (x 0), b8 (x 1), b8 (x 2), b8 (x 3), b8 (x 4), b8 (x 5), b8 (x 6), b8 (x 7), b8 (x 8), b8 (x 9), b8 (x 10), b8 (x 11), b8 (x 12), b8 (x 13), b8 (x 14), b8 (x 15), int u16 po, AV.sl (some (1, 0)) n 0 false] 21 Md.own none, ABlk.cells C 19 Md.own none]
noncomputable def hCK3g3 (vip wt : Int) (n : Nat) (pr : Int) (w : Bool) (x : Nat → Int) (po : Int) (Z : List UInt8) (C : List AV) (q : Prop) (vs0 : List AV) (h0 : AHeap) : AHeap := [cells (bys Z) 1 Md.own none]
noncomputable def hCK3g4 (vip wt : Int) (n : Nat) (pr : Int) (w : Bool) (x : Nat → Int) (po : Int) (Z : List UInt8) (C : List AV) (q : Prop) (vs0 : List AV) (h0 : AHeap) : AHeap := [cells [int i64 3, b8 pr, AV.bool w, b8 (x 0), b8 (x 1), b8 (x 2), b8 (x 3), b8 (x 4), b8 (x 5), b8 (x 6), b8 (x 7), b8 (x 8), b8 (x 9), b8 (x 10), b8 (x 11), b8 (x 12), b8 (x 13), b8 (x 14), b8 (x 15), int u16 po, AV.sl (some (1, 0)) n 0 false] 21 Md.own none, ABlk.cells C 19 Md.own none, cells (bys Z) 1 Md.own none]
theorem nfCK3g {R : Type} (vip wt : Int) (n : Nat) (pr : Int) (w : Bool) (x : Nat → Int) (po : Int) (Z : List UInt8) (C : List AV) (q : Prop) (vs0 : List AV) (h0 : AHeap) (K : AV → AHeap → Option R) :
 qrun Try.prog (tCK (.agg (.int .u8 pr :: (adF w x ++ [.int .u16 po]))) 0 Z) 100 4 [(21, .bool false), (89, .bool false), (121, .bool true)] [(5, fixC q mCK vs0 h0 (.exit 0) (vCK 3 n wt n) (hCK 3 pr w x po C n))] 6 [.int .i64 3, .int .i64 vip, .int .i64 n, .int .i64 wt] [] K =
 (if decide ((n : Int) > 20) = false then
 (if cdec (Says eVof [int i64 vip] (hCK3g0 vip wt n pr w x po Z C q vs0 h0) (AV.agg [b8 pr, AV.bool w, b8 (x 0), b8 (x 1), b8 (x 2), b8 (x 3), b8 (x 4), b8 (x 5), b8 (x 6), b8 (x 7), b8 (x 8), b8 (x 9), b8 (x 10), b8 (x 11), b8 (x 12), b8 (x 13), b8 (x 14), b8 (x 15), int u16 po]) (hCK3g0 vip wt n pr w x po Z C q vs0 h0)) = true then
 (if cdec (q ∧ [int i64 3, int i64 (n : Int), int i64 wt, AV.ptr (some (0, 0)), int i64 0] = vs0 ∧ (hCK3g1 vip wt n pr w x po Z C q vs0 h0) = h0) = true then
 (if ((n : Int) == 1) = true then
 (if decide (wt ≥ 0) = true then
 (if cdec (EnR [AV.agg [int i64 3, b8 pr, AV.bool w, b8 (x 0), b8 (x 1), b8 (x 2), b8 (x 3), b8 (x 4), b8 (x 5), b8 (x 6), b8 (x 7), b8 (x 8), b8 (x 9), b8 (x 10), b8 (x 11), b8 (x 12), b8 (x 13), b8 (x 14), b8 (x 15), int u16 po, AV.sl (some (1, 0)) n 0 false]] (hCK3g2 vip wt n pr w x po Z C q vs0 h0) (AV.tup [AV.sl (some (2, 0)) Z.length 0 false, int i64 0]) (hCK3g3 vip wt n pr w x po Z C q vs0 h0)) = true then
 (if (!decide (wt ≤ 255)) = false then
 (if boolV (some (AV.bool w)) = true then
 (if ((Z.length : Int) == i64.wrap (22 + i64.wrap ((n : Int) * 20))) = true then
 K (AV.bool true) ((hCK3g4 vip wt n pr w x po Z C q vs0 h0))
 else none)
 else (if ((Z.length : Int) == i64.wrap (10 + i64.wrap ((n : Int) * 8))) = true then
 K (AV.bool true) ((hCK3g4 vip wt n pr w x po Z C q vs0 h0))
 else none))
 else none) else none)
 else (if cdec (EnR [AV.agg [int i64 3, b8 pr, AV.bool w, b8 (x 0), b8 (x 1), b8 (x 2), b8 (x 3), b8 (x 4), b8 (x 5), b8 (x 6), b8 (x 7), b8 (x 8), b8 (x 9), b8 (x 10), b8 (x 11), b8 (x 12), b8 (x 13), b8 (x 14), b8 (x 15), int u16 po, AV.sl (some (1, 0)) n 0 false]] (hCK3g2 vip wt n pr w x po Z C q vs0 h0) (AV.tup [AV.sl (some (2, 0)) Z.length 0 false, int i64 0]) (hCK3g3 vip wt n pr w x po Z C q vs0 h0)) = true then
 none
 else none))
 else (if cdec (EnR [AV.agg [int i64 3, b8 pr, AV.bool w, b8 (x 0), b8 (x 1), b8 (x 2), b8 (x 3), b8 (x 4), b8 (x 5), b8 (x 6), b8 (x 7), b8 (x 8), b8 (x 9), b8 (x 10), b8 (x 11), b8 (x 12), b8 (x 13), b8 (x 14), b8 (x 15), int u16 po, AV.sl (some (1, 0)) n 0 false]] (hCK3g2 vip wt n pr w x po Z C q vs0 h0) (AV.tup [AV.sl (some (2, 0)) Z.length 0 false, int i64 0]) (hCK3g3 vip wt n pr w x po Z C q vs0 h0)) = true then
 none
 else none))
 else none) else none) else none) := by
  kernel_rfl

noncomputable def hCK3b0 (vip wt : Int) (n : Nat) (pr : Int) (w : Bool) (x : Nat → Int) (po : Int) (Z : List UInt8) (C : List AV) (q : Prop) (vs0 : List AV) (h0 : AHeap) : AHeap := []
noncomputable def hCK3b1 (vip wt : Int) (n : Nat) (pr : Int) (w : Bool) (x : Nat → Int) (po : Int) (Z : List UInt8) (C : List AV) (q : Prop) (vs0 : List AV) (h0 : AHeap) : AHeap := [cells [int i64 3, b8 pr, AV.bool w, b8 (x 0), b8 (x 1), b8 (x 2), b8 (x 3), b8 (x 4), b8 (x 5), b8 (x 6), b8 (x 7), b8 (x 8), b8 (x 9), b8 (x 10), b8 (x 11), b8 (x 12), b8 (x 13), b8 (x 14), b8 (x 15), int u16 po, AV.sl none 0 0 true] 21 Md.own none]
noncomputable def hCK3b2 (vip wt : Int) (n : Nat) (pr : Int) (w : Bool) (x : Nat → Int) (po : Int) (Z : List UInt8) (C : List AV) (q : Prop) (vs0 : List AV) (h0 : AHeap) : AHeap := [cells [int i64 3, b8 pr, AV.bool w, b8 (x 0), b8 (x 1), b8 (x 2), b8 (x 3), b8 (x 4), b8 (x 5), b8 (x 6), b8 (x 7), b8 (x 8), b8 (x 9), b8 (x 10), b8 (x 11), b8 (x 12), b8 (x 13), b8 (x 14), b8 (x 15), int u16 po, AV.sl (some (1, 0)) n 0 false] 21 Md.own none, ABlk.cells C 19 Md.own none]
noncomputable def hCK3b3 (vip wt : Int) (n : Nat) (pr : Int) (w : Bool) (x : Nat → Int) (po : Int) (Z : List UInt8) (C : List AV) (q : Prop) (vs0 : List AV) (h0 : AHeap) : AHeap := [cells [] 1 Md.own none]
noncomputable def hCK3b4 (vip wt : Int) (n : Nat) (pr : Int) (w : Bool) (x : Nat → Int) (po : Int) (Z : List UInt8) (C : List AV) (q : Prop) (vs0 : List AV) (h0 : AHeap) : AHeap := [cells [int i64 3, b8 pr, AV.bool w, b8 (x 0), b8 (x 1), b8 (x 2), b8 (x 3), b8 (x 4), b8 (x 5), b8 (x 6), b8 (x 7), b8 (x 8), b8 (x 9), b8 (x 10), b8 (x 11), b8 (x 12), b8 (x 13), b8 (x 14), b8 (x 15), int u16 po, AV.sl (some (1, 0)) n 0 false] 21 Md.own none, ABlk.cells C 19 Md.own none, cells [] 1 Md.own none]
theorem nfCK3b {R : Type} (vip wt : Int) (n : Nat) (pr : Int) (w : Bool) (x : Nat → Int) (po : Int) (Z : List UInt8) (C : List AV) (q : Prop) (vs0 : List AV) (h0 : AHeap) (K : AV → AHeap → Option R) :
 qrun Try.prog (tCK (.agg (.int .u8 pr :: (adF w x ++ [.int .u16 po]))) 2 []) 100 4 [(21, .bool false), (89, .bool true)] [(5, fixC q mCK vs0 h0 (.exit 0) (vCK 3 n wt n) (hCK 3 pr w x po C n))] 6 [.int .i64 3, .int .i64 vip, .int .i64 n, .int .i64 wt] [] K =
 (if decide ((n : Int) > 20) = false then
 (if cdec (Says eVof [int i64 vip] (hCK3b0 vip wt n pr w x po Z C q vs0 h0) (AV.agg [b8 pr, AV.bool w, b8 (x 0), b8 (x 1), b8 (x 2), b8 (x 3), b8 (x 4), b8 (x 5), b8 (x 6), b8 (x 7), b8 (x 8), b8 (x 9), b8 (x 10), b8 (x 11), b8 (x 12), b8 (x 13), b8 (x 14), b8 (x 15), int u16 po]) (hCK3b0 vip wt n pr w x po Z C q vs0 h0)) = true then
 (if cdec (q ∧ [int i64 3, int i64 (n : Int), int i64 wt, AV.ptr (some (0, 0)), int i64 0] = vs0 ∧ (hCK3b1 vip wt n pr w x po Z C q vs0 h0) = h0) = true then
 (if ((n : Int) == 1) = true then
 (if decide (wt ≥ 0) = true then
 (if cdec (EnR [AV.agg [int i64 3, b8 pr, AV.bool w, b8 (x 0), b8 (x 1), b8 (x 2), b8 (x 3), b8 (x 4), b8 (x 5), b8 (x 6), b8 (x 7), b8 (x 8), b8 (x 9), b8 (x 10), b8 (x 11), b8 (x 12), b8 (x 13), b8 (x 14), b8 (x 15), int u16 po, AV.sl (some (1, 0)) n 0 false]] (hCK3b2 vip wt n pr w x po Z C q vs0 h0) (AV.tup [AV.sl (some (2, 0)) 0 0 false, int i64 2]) (hCK3b3 vip wt n pr w x po Z C q vs0 h0)) = true then
 (if (!decide (wt ≤ 255)) = true then
 K (AV.bool true) ((hCK3b4 vip wt n pr w x po Z C q vs0 h0))
 else none) else none)
 else (if cdec (EnR [AV.agg [int i64 3, b8 pr, AV.bool w, b8 (x 0), b8 (x 1), b8 (x 2), b8 (x 3), b8 (x 4), b8 (x 5), b8 (x 6), b8 (x 7), b8 (x 8), b8 (x 9), b8 (x 10), b8 (x 11), b8 (x 12), b8 (x 13), b8 (x 14), b8 (x 15), int u16 po, AV.sl (some (1, 0)) n 0 false]] (hCK3b2 vip wt n pr w x po Z C q vs0 h0) (AV.tup [AV.sl (some (2, 0)) 0 0 false, int i64 2]) (hCK3b3 vip wt n pr w x po Z C q vs0 h0)) = true then
 K (AV.bool true) ((hCK3b4 vip wt n pr w x po Z C q vs0 h0))
 else none))
 else (if cdec (EnR [AV.agg [int i64 3, b8 pr, AV.bool w, b8 (x 0), b8 (x 1), b8 (x 2), b8 (x 3), b8 (x 4), b8 (x 5), b8 (x 6), b8 (x 7), b8 (x 8), b8 (x 9), b8 (x 10), b8 (x 11), b8 (x 12), b8 (x 13), b8 (x 14), b8 (x 15), int u16 po, AV.sl (some (1, 0)) n 0 false]] (hCK3b2 vip wt n pr w x po Z C q vs0 h0) (AV.tup [AV.sl (some (2, 0)) 0 0 false, int i64 2]) (hCK3b3 vip wt n pr w x po Z C q vs0 h0)) = true then
 K (AV.bool true) ((hCK3b4 vip wt n pr w x po Z C q vs0 h0))
 else none))
 else none) else none) else none) := by
  kernel_rfl

noncomputable def hCK4g0 (vip wt : Int) (n : Nat) (pr : Int) (w : Bool) (x : Nat → Int) (po : Int) (Z : List UInt8) (C : List AV) (q : Prop) (vs0 : List AV) (h0 : AHeap) : AHeap := []
noncomputable def hCK4g1 (vip wt : Int) (n : Nat) (pr : Int) (w : Bool) (x : Nat → Int) (po : Int) (Z : List UInt8) (C : List AV) (q : Prop) (vs0 : List AV) (h0 : AHeap) : AHeap := [cells [int i64 4, b8 pr, AV.bool w, b8 (x 0), b8 (x 1), b8 (x 2), b8 (x 3), b8 (x 4), b8 (x 5), b8 (x 6), b8 (x 7), b8 (x 8), b8 (x 9), b8 (x 10), b8 (x 11), b8 (x 12), b8 (x 13), b8 (x 14), b8 (x 15), int u16 po, AV.sl none 0 0 true] 21 Md.own none]
noncomputable def hCK4g2 (vip wt : Int) (n : Nat) (pr : Int) (w : Bool) (x : Nat → Int) (po : Int) (Z : List UInt8) (C : List AV) (q : Prop) (vs0 : List AV) (h0 : AHeap) : AHeap := [cells [int i64 4, b8 pr, AV.bool w, b8 (x 0), b8 (x 1), b8 (x 2), b8 (x 3), b8 (x 4), b8 (x 5), b8 (x 6), b8 (x 7), b8 (x 8), b8 (x 9), b8 (x 10), b8 (x 11), b8 (x 12), b8 (x 13), b8 (x 14), b8 (x 15), int u16 po, AV.sl (some (1, 0)) n 0 false] 21 Md.own none, ABlk.cells C 19 Md.own none]
noncomputable def hCK4g3 (vip wt : Int) (n : Nat) (pr : Int) (w : Bool) (x : Nat → Int) (po : Int) (Z : List UInt8) (C : List AV) (q : Prop) (vs0 : List AV) (h0 : AHeap) : AHeap := [cells (bys Z) 1 Md.own none]
noncomputable def hCK4g4 (vip wt : Int) (n : Nat) (pr : Int) (w : Bool) (x : Nat → Int) (po : Int) (Z : List UInt8) (C : List AV) (q : Prop) (vs0 : List AV) (h0 : AHeap) : AHeap := [cells [int i64 4, b8 pr, AV.bool w, b8 (x 0), b8 (x 1), b8 (x 2), b8 (x 3), b8 (x 4), b8 (x 5), b8 (x 6), b8 (x 7), b8 (x 8), b8 (x 9), b8 (x 10), b8 (x 11), b8 (x 12), b8 (x 13), b8 (x 14), b8 (x 15), int u16 po, AV.sl (some (1, 0)) n 0 false] 21 Md.own none, ABlk.cells C 19 Md.own none, cells (bys Z) 1 Md.own none]
theorem nfCK4g {R : Type} (vip wt : Int) (n : Nat) (pr : Int) (w : Bool) (x : Nat → Int) (po : Int) (Z : List UInt8) (C : List AV) (q : Prop) (vs0 : List AV) (h0 : AHeap) (K : AV → AHeap → Option R) :
 qrun Try.prog (tCK (.agg (.int .u8 pr :: (adF w x ++ [.int .u16 po]))) 0 Z) 100 4 [(21, .bool false), (89, .bool false), (121, .bool true)] [(5, fixC q mCK vs0 h0 (.exit 0) (vCK 4 n wt n) (hCK 4 pr w x po C n))] 6 [.int .i64 4, .int .i64 vip, .int .i64 n, .int .i64 wt] [] K =
 (if decide ((n : Int) > 20) = false then
 (if cdec (Says eVof [int i64 vip] (hCK4g0 vip wt n pr w x po Z C q vs0 h0) (AV.agg [b8 pr, AV.bool w, b8 (x 0), b8 (x 1), b8 (x 2), b8 (x 3), b8 (x 4), b8 (x 5), b8 (x 6), b8 (x 7), b8 (x 8), b8 (x 9), b8 (x 10), b8 (x 11), b8 (x 12), b8 (x 13), b8 (x 14), b8 (x 15), int u16 po]) (hCK4g0 vip wt n pr w x po Z C q vs0 h0)) = true then
 (if cdec (q ∧ [int i64 4, int i64 (n : Int), int i64 wt, AV.ptr (some (0, 0)), int i64 0] = vs0 ∧ (hCK4g1 vip wt n pr w x po Z C q vs0 h0) = h0) = true then
 (if ((n : Int) == 1) = true then
 (if cdec (EnR [AV.agg [int i64 4, b8 pr, AV.bool w, b8 (x 0), b8 (x 1), b8 (x 2), b8 (x 3), b8 (x 4), b8 (x 5), b8 (x 6), b8 (x 7), b8 (x 8), b8 (x 9), b8 (x 10), b8 (x 11), b8 (x 12), b8 (x 13), b8 (x 14), b8 (x 15), int u16 po, AV.sl (some (1, 0)) n 0 false]] (hCK4g2 vip wt n pr w x po Z C q vs0 h0) (AV.tup [AV.sl (some (2, 0)) Z.length 0 false, int i64 0]) (hCK4g3 vip wt n pr w x po Z C q vs0 h0)) = true then
 (if (!wt == 0) = false then
 (if boolV (some (AV.bool w)) = true then
 (if ((Z.length : Int) == i64.wrap (22 + i64.wrap ((n : Int) * 20))) = true then
 K (AV.bool true) ((hCK4g4 vip wt n pr w x po Z C q vs0 h0))
 else none)
 else (if ((Z.length : Int) == i64.wrap (10 + i64.wrap ((n : Int) * 8))) = true then
 K (AV.bool true) ((hCK4g4 vip wt n pr w x po Z C q vs0 h0))
 else none))
 else none) else none)
 else (if cdec (EnR [AV.agg [int i64 4, b8 pr, AV.bool w, b8 (x 0), b8 (x 1), b8 (x 2), b8 (x 3), b8 (x 4), b8 (x 5), b8 (x 6), b8 (x 7), b8 (x 8), b8 (x 9), b8 (x 10), b8 (x 11), b8 (x 12), b8 (x 13), b8 (x 14), b8 (x 15), int u16 po, AV.sl (some (1, 0)) n 0 false]] (hCK4g2 vip wt n pr w x po Z C q vs0 h0) (AV.tup [AV.sl (some (2, 0)) Z.length 0 false, int i64 0]) (hCK4g3 vip wt n pr w x po Z C q vs0 h0)) = true then
 none
 else none))
 else none) else none) else none) := by
  kernel_rfl

noncomputable def hCK4b0 (vip wt : Int) (n : Nat) (pr : Int) (w : Bool) (x : Nat → Int) (po : Int) (Z : List UInt8) (C : List AV) (q : Prop) (vs0 : List AV) (h0 : AHeap) : AHeap := []
noncomputable def hCK4b1 (vip wt : Int) (n : Nat) (pr : Int) (w : Bool) (x : Nat → Int) (po : Int) (Z : List UInt8) (C : List AV) (q : Prop) (vs0 : List AV) (h0 : AHeap) : AHeap := [cells [int i64 4, b8 pr, AV.bool w, b8 (x 0), b8 (x 1), b8 (x 2), b8 (x 3), b8 (x 4), b8 (x 5), b8 (x 6), b8 (x 7), b8 (x 8), b8 (x 9), b8 (x 10), b8 (x 11), b8 (x 12), b8 (x 13), b8 (x 14), b8 (x 15), int u16 po, AV.sl none 0 0 true] 21 Md.own none]
noncomputable def hCK4b2 (vip wt : Int) (n : Nat) (pr : Int) (w : Bool) (x : Nat → Int) (po : Int) (Z : List UInt8) (C : List AV) (q : Prop) (vs0 : List AV) (h0 : AHeap) : AHeap := [cells [int i64 4, b8 pr, AV.bool w, b8 (x 0), b8 (x 1), b8 (x 2), b8 (x 3), b8 (x 4), b8 (x 5), b8 (x 6), b8 (x 7), b8 (x 8), b8 (x 9), b8 (x 10), b8 (x 11), b8 (x 12), b8 (x 13), b8 (x 14), b8 (x 15), int u16 po, AV.sl (some (1, 0)) n 0 false] 21 Md.own none, ABlk.cells C 19 Md.own none]
noncomputable def hCK4b3 (vip wt : Int) (n : Nat) (pr : Int) (w : Bool) (x : Nat → Int) (po : Int) (Z : List UInt8) (C : List AV) (q : Prop) (vs0 : List AV) (h0 : AHeap) : AHeap := [cells [] 1 Md.own none]
noncomputable def hCK4b4 (vip wt : Int) (n : Nat) (pr : Int) (w : Bool) (x : Nat → Int) (po : Int) (Z : List UInt8) (C : List AV) (q : Prop) (vs0 : List AV) (h0 : AHeap) : AHeap := [cells [int i64 4, b8 pr, AV.bool w, b8 (x 0), b8 (x 1), b8 (x 2), b8 (x 3), b8 (x 4), b8 (x 5), b8 (x 6), b8 (x 7), b8 (x 8), b8 (x 9), b8 (x 10), b8 (x 11), b8 (x 12), b8 (x 13), b8 (x 14), b8 (x 15), int u16 po, AV.sl (some (1, 0)) n 0 false] 21 Md.own none, ABlk.cells C 19 Md.own none, cells [] 1 Md.own none]
theorem nfCK4b {R : Type} (vip wt : Int) (n : Nat) (pr : Int) (w : Bool) (x : Nat → Int) (po : Int) (Z : List UInt8) (C : List AV) (q : Prop) (vs0 : List AV) (h0 : AHeap) (K : AV → AHeap → Option R) :
 qrun Try.prog (tCK (.agg (.int .u8 pr :: (adF w x ++ [.int .u16 po]))) 2 []) 100 4 [(21, .bool false), (89, .bool true)] [(5, fixC q mCK vs0 h0 (.exit 0) (vCK 4 n wt n) (hCK 4 pr w x po C n))] 6 [.int .i64 4, .int .i64 vip, .int .i64 n, .int .i64 wt] [] K =
 (if decide ((n : Int) > 20) = false then
 (if cdec (Says eVof [int i64 vip] (hCK4b0 vip wt n pr w x po Z C q vs0 h0) (AV.agg [b8 pr, AV.bool w, b8 (x 0), b8 (x 1), b8 (x 2), b8 (x 3), b8 (x 4), b8 (x 5), b8 (x 6), b8 (x 7), b8 (x 8), b8 (x 9), b8 (x 10), b8 (x 11), b8 (x 12), b8 (x 13), b8 (x 14), b8 (x 15), int u16 po]) (hCK4b0 vip wt n pr w x po Z C q vs0 h0)) = true then
 (if cdec (q ∧ [int i64 4, int i64 (n : Int), int i64 wt, AV.ptr (some (0, 0)), int i64 0] = vs0 ∧ (hCK4b1 vip wt n pr w x po Z C q vs0 h0) = h0) = true then
 (if ((n : Int) == 1) = true then
 (if cdec (EnR [AV.agg [int i64 4, b8 pr, AV.bool w, b8 (x 0), b8 (x 1), b8 (x 2), b8 (x 3), b8 (x 4), b8 (x 5), b8 (x 6), b8 (x 7), b8 (x 8), b8 (x 9), b8 (x 10), b8 (x 11), b8 (x 12), b8 (x 13), b8 (x 14), b8 (x 15), int u16 po, AV.sl (some (1, 0)) n 0 false]] (hCK4b2 vip wt n pr w x po Z C q vs0 h0) (AV.tup [AV.sl (some (2, 0)) 0 0 false, int i64 2]) (hCK4b3 vip wt n pr w x po Z C q vs0 h0)) = true then
 (if (!wt == 0) = true then
 K (AV.bool true) ((hCK4b4 vip wt n pr w x po Z C q vs0 h0))
 else none) else none)
 else (if cdec (EnR [AV.agg [int i64 4, b8 pr, AV.bool w, b8 (x 0), b8 (x 1), b8 (x 2), b8 (x 3), b8 (x 4), b8 (x 5), b8 (x 6), b8 (x 7), b8 (x 8), b8 (x 9), b8 (x 10), b8 (x 11), b8 (x 12), b8 (x 13), b8 (x 14), b8 (x 15), int u16 po, AV.sl (some (1, 0)) n 0 false]] (hCK4b2 vip wt n pr w x po Z C q vs0 h0) (AV.tup [AV.sl (some (2, 0)) 0 0 false, int i64 2]) (hCK4b3 vip wt n pr w x po Z C q vs0 h0)) = true then
 K (AV.bool true) ((hCK4b4 vip wt n pr w x po Z C q vs0 h0))
 else none))
 else none) else none) else none) := by
  kernel_rfl

noncomputable def hCK5g0 (vip wt : Int) (n : Nat) (pr : Int) (w : Bool) (x : Nat → Int) (po : Int) (Z : List UInt8) (C : List AV) (q : Prop) (vs0 : List AV) (h0 : AHeap) : AHeap := []
noncomputable def hCK5g1 (vip wt : Int) (n : Nat) (pr : Int) (w : Bool) (x : Nat → Int) (po : Int) (Z : List UInt8) (C : List AV) (q : Prop) (vs0 : List AV) (h0 : AHeap) : AHeap := [cells [int i64 5, b8 pr, AV.bool w, b8 (x 0), b8 (x 1), b8 (x 2), b8 (x 3), b8 (x 4), b8 (x 5), b8 (x 6), b8 (x 7), b8 (x 8), b8 (x 9), b8 (x 10), b8 (x 11), b8 (x 12), b8 (x 13), b8 (x 14), b8 (x 15), int u16 po, AV.sl none 0 0 true] 21 Md.own none]
noncomputable def hCK5g2 (vip wt : Int) (n : Nat) (pr : Int) (w : Bool) (x : Nat → Int) (po : Int) (Z : List UInt8) (C : List AV) (q : Prop) (vs0 : List AV) (h0 : AHeap) : AHeap := [cells [int i64 5, b8 pr, AV.bool w, b8 (x 0), b8 (x 1), b8 (x 2), b8 (x 3), b8 (x 4), b8 (x 5), b8 (x 6), b8 (x 7), b8 (x 8), b8 (x 9), b8 (x 10), b8 (x 11), b8 (x 12), b8 (x 13), b8 (x 14), b8 (x 15), int u16 po, AV.sl (some (1, 0)) n 0 false] 21 Md.own none, ABlk.cells C 19 Md.own none]
noncomputable def hCK5g3 (vip wt : Int) (n : Nat) (pr : Int) (w : Bool) (x : Nat → Int) (po : Int) (Z : List UInt8) (C : List AV) (q : Prop) (vs0 : List AV) (h0 : AHeap) : AHeap := [cells (bys Z) 1 Md.own none]
noncomputable def hCK5g4 (vip wt : Int) (n : Nat) (pr : Int) (w : Bool) (x : Nat → Int) (po : Int) (Z : List UInt8) (C : List AV) (q : Prop) (vs0 : List AV) (h0 : AHeap) : AHeap := [cells [int i64 5, b8 pr, AV.bool w, b8 (x 0), b8 (x 1), b8 (x 2), b8 (x 3), b8 (x 4), b8 (x 5), b8 (x 6), b8 (x 7), b8 (x 8), b8 (x 9), b8 (x 10), b8 (x 11), b8 (x 12), b8 (x 13), b8 (x 14), b8 (x 15), int u16 po, AV.sl (some (1, 0)) n 0 false] 21 Md.own none, ABlk.cells C 19 Md.own none, cells (bys Z) 1 Md.own none]
theorem nfCK5g {R : Type} (vip wt : Int) (n : Nat) (pr : Int) (w : Bool) (x : Nat → Int) (po : Int) (Z : List UInt8) (C : List AV) (q : Prop) (vs0 : List AV) (h0 : AHeap) (K : AV → AHeap → Option R) :
 qrun Try.prog (tCK (.agg (.int .u8 pr :: (adF w x ++ [.int .u16 po]))) 0 Z) 100 4 [(21, .bool false), (89, .bool false), (121, .bool true)] [(5, fixC q mCK vs0 h0 (.exit 0) (vCK 5 n wt n) (hCK 5 pr w x po C n))] 6 [.int .i64 5, .int .i64 vip, .int .i64 n, .int .i64 wt] [] K =
 (if decide ((n : Int) > 20) = false then
 (if cdec (Says eVof [int i64 vip] (hCK5g0 vip wt n pr w x po Z C q vs0 h0) (AV.agg [b8 pr, AV.bool w, b8 (x 0), b8 (x 1), b8 (x 2), b8 (x 3), b8 (x 4), b8 (x 5), b8 (x 6), b8 (x 7), b8 (x 8), b8 (x 9), b8 (x 10), b8 (x 11), b8 (x 12), b8 (x 13), b8 (x 14), b8 (x 15), int u16 po]) (hCK5g0 vip wt n pr w x po Z C q vs0 h0)) = true then
 (if cdec (q ∧ [int i64 5, int i64 (n : Int), int i64 wt, AV.ptr (some (0, 0)), int i64 0] = vs0 ∧ (hCK5g1 vip wt n pr w x po Z C q vs0 h0) = h0) = true then
 (if ((n : Int) == 1) = true then
 (if decide (wt ≥ 0) = true then
 (if cdec (EnR [AV.agg [int i64 5, b8 pr, AV.bool w, b8 (x 0), b8 (x 1), b8 (x 2), b8 (x 3), b8 (x 4), b8 (x 5), b8 (x 6), b8 (x 7), b8 (x 8), b8 (x 9), b8 (x 10), b8 (x 11), b8 (x 12), b8 (x 13), b8 (x 14), b8 (x 15), int u16 po, AV.sl (some (1, 0)) n 0 false]] (hCK5g2 vip wt n pr w x po Z C q vs0 h0) (AV.tup [AV.sl (some (2, 0)) Z.length 0 false, int i64 0]) (hCK5g3 vip wt n pr w x po Z C q vs0 h0)) = true then
 (if (!decide (wt ≤ 255)) = false then
 (if boolV (some (AV.bool w)) = true then
 (if ((Z.length : Int) == i64.wrap (22 + i64.wrap ((n : Int) * 20))) = true then
 K (AV.bool true) ((hCK5g4 vip wt n pr w x po Z C q vs0 h0))
 else none)
 else (if ((Z.length : Int) == i64.wrap (10 + i64.wrap ((n : Int) * 8))) = true then
 K (AV.bool true) ((hCK5g4 vip wt n pr w x po Z C q vs0 h0))
 else none))
 else none) else none)
 else (if cdec (EnR [AV.agg [int i64 5, b8 pr, AV.bool w, b8 (x 0), b8 (x 1), b8 (x 2), b8 (x 3), b8 (x 4), b8 (x 5), b8 (x 6), b8 (x 7), b8 (x 8), b8 (x 9), b8 (x 10), b8 (x 11), b8 (x 12), b8 (x 13), b8 (x 14), b8 (x 15), int u16 po, AV.sl (some (1, 0)) n 0 false]] (hCK5g2 vip wt n pr w x po Z C q vs0 h0) (AV.tup [AV.sl (some (2, 0)) Z.length 0 false, int i64 0]) (hCK5g3 vip wt n pr w x po Z C q vs0 h0)) = true then
 none
 else none))
 else (if cdec (EnR [AV.agg [int i64 5, b8 pr, AV.bool w, b8 (x 0), b8 (x 1), b8 (x 2), b8 (x 3), b8 (x 4), b8 (x 5), b8 (x 6), b8 (x 7), b8 (x 8), b8 (x 9), b8 (x 10), b8 (x 11), b8 (x 12), b8 (x 13), b8 (x 14), b8 (x 15), int u16 po, AV.sl (some (1, 0)) n 0 false]] (hCK5g2 vip wt n pr w x po Z C q vs0 h0) (AV.tup [AV.sl (some (2, 0)) Z.length 0 false, int i64 0]) (hCK5g3 vip wt n pr w x po Z C q vs0 h0)) = true then
 none
 else none))
 else none) else none) else none) := by
  kernel_rfl

noncomputable def hCK5b0 (vip wt : Int) (n : Nat) (pr : Int) (w : Bool) (x : Nat → Int) (po : Int) (Z : List UInt8) (C : List AV) (q : Prop) (vs0 : List AV) (h0 : AHeap) : AHeap := []
noncomputable def hCK5b1 (vip wt : Int) (n : Nat) (pr : Int) (w : Bool) (x : Nat → Int) (po : Int) (Z : List UInt8) (C : List AV) (q : Prop) (vs0 : List AV) (h0 : AHeap) : AHeap := [cells [int i64 5, b8 pr, AV.bool w, b8 (x 0), b8 (x 1), b8 (x 2), b8 (x 3), b8 (x 4), b8 (x 5), b8 (x 6), b8 (x 7), b8 (x 8), b8 (x 9), b8 (x 10), b8 (x 11), b8 (x 12), b8 (x 13), b8 (x 14), b8 (x 15), int u16 po, AV.sl none 0 0 true] 21 Md.own none]
noncomputable def hCK5b2 (vip wt : Int) (n : Nat) (pr : Int) (w : Bool) (x : Nat → Int) (po : Int) (Z : List UInt8) (C : List AV) (q : Prop) (vs0 : List AV) (h0 : AHeap) : AHeap := [cells [int i64 5, b8 pr, AV.bool w, b8 (x 0), b8 (x 1), b8 (x 2), b8 (x 3), b8 (x 4), b8 (x 5), b8 (x 6), b8 (x 7), b8 (x 8), b8 (x 9), b8 (x 10), b8 (x 11), b8 (x 12), b8 (x 13), b8 (x 14), b8 (x 15), int u16 po, AV.sl (some (1, 0)) n 0 false] 21 Md.own none, ABlk.cells C 19 Md.own none]
noncomputable def hCK5b3 (vip wt : Int) (n : Nat) (pr : Int) (w : Bool) (x : Nat → Int) (po : Int) (Z : List UInt8) (C : List AV) (q : Prop) (vs0 : List AV) (h0 : AHeap) : AHeap := [cells [] 1 Md.own none]
noncomputable def hCK5b4 (vip wt : Int) (n : Nat) (pr : Int) (w : Bool) (x : Nat → Int) (po : Int) (Z : List UInt8) (C : List AV) (q : Prop) (vs0 : List AV) (h0 : AHeap) : AHeap := [cells [int i64 5, b8 pr, AV.bool w, b8 (x 0), b8 (x 1), b8 (x 2), b8 (x 3), b8 (x 4), b8 (x 5), b8 (x 6), b8 (x 7), b8 (x 8), b8 (x 9), b8 (x 10), b8 (x 11), b8 (x 12), b8 (x 13), b8 (x 14), b8 (x 15), int u16 po, AV.sl (some (1, 0)) n 0 false] 21 Md.own none, ABlk.cells C 19 Md.own none, cells [] 1 Md.own none]
theorem nfCK5b {R : Type} (vip wt : Int) (n : Nat) (pr : Int) (w : Bool) (x : Nat → Int) (po : Int) (Z : List UInt8) (C : List AV) (q : Prop) (vs0 : List AV) (h0 : AHeap) (K : AV → AHeap → Option R) :
 qrun Try.prog (tCK (.agg (.int .u8 pr :: (adF w x ++ [.int .u16 po]))) 2 []) 100 4 [(21, .bool false), (89, .bool true)] [(5, fixC q mCK vs0 h0 (.exit 0) (vCK 5 n wt n) (hCK 5 pr w x po C n))] 6 [.int .i64 5, .int .i64 vip, .int .i64 n, .int .i64 wt] [] K =
 (if decide ((n : Int) > 20) = false then
 (if cdec (Says eVof [int i64 vip] (hCK5b0 vip wt n pr w x po Z C q vs0 h0) (AV.agg [b8 pr, AV.bool w, b8 (x 0), b8 (x 1), b8 (x 2), b8 (x 3), b8 (x 4), b8 (x 5), b8 (x 6), b8 (x 7), b8 (x 8), b8 (x 9), b8 (x 10), b8 (x 11), b8 (x 12), b8 (x 13), b8 (x 14), b8 (x 15), int u16 po]) (hCK5b0 vip wt n pr w x po Z C q vs0 h0)) = true then
 (if cdec (q ∧ [int i64 5, int i64 (n : Int), int i64 wt, AV.ptr (some (0, 0)), int i64 0] = vs0 ∧ (hCK5b1 vip wt n pr w x po Z C q vs0 h0) = h0) = true then
 (if ((n : Int) == 1) = true then
 (if decide (wt ≥ 0) = true then
 (if cdec (EnR [AV.agg [int i64 5, b8 pr, AV.bool w, b8 (x 0), b8 (x 1), b8 (x 2), b8 (x 3), b8 (x 4), b8 (x 5), b8 (x 6), b8 (x 7), b8 (x 8), b8 (x 9), b8 (x 10), b8 (x 11), b8 (x 12), b8 (x 13), b8 (x 14), b8 (x 15), int u16 po, AV.sl (some (1, 0)) n 0 false]] (hCK5b2 vip wt n pr w x po Z C q vs0 h0) (AV.tup [AV.sl (some (2, 0)) 0 0 false, int i64 2]) (hCK5b3 vip wt n pr w x po Z C q vs0 h0)) = true then
 (if (!decide (wt ≤ 255)) = true then
 K (AV.bool true) ((hCK5b4 vip wt n pr w x po Z C q vs0 h0))
 else none) else none)
 else (if cdec (EnR [AV.agg [int i64 5, b8 pr, AV.bool w, b8 (x 0), b8 (x 1), b8 (x 2), b8 (x 3), b8 (x 4), b8 (x 5), b8 (x 6), b8 (x 7), b8 (x 8), b8 (x 9), b8 (x 10), b8 (x 11), b8 (x 12), b8 (x 13), b8 (x 14), b8 (x 15), int u16 po, AV.sl (some (1, 0)) n 0 false]] (hCK5b2 vip wt n pr w x po Z C q vs0 h0) (AV.tup [AV.sl (some (2, 0)) 0 0 false, int i64 2]) (hCK5b3 vip wt n pr w x po Z C q vs0 h0)) = true then
 K (AV.bool true) ((hCK5b4 vip wt n pr w x po Z C q vs0 h0))
 else none))
 else (if cdec (EnR [AV.agg [int i64 5, b8 pr, AV.bool w, b8 (x 0), b8 (x 1), b8 (x 2), b8 (x 3), b8 (x 4), b8 (x 5), b8 (x 6), b8 (x 7), b8 (x 8), b8 (x 9), b8 (x 10), b8 (x 11), b8 (x 12), b8 (x 13), b8 (x 14), b8 (x 15), int u16 po, AV.sl (some (1, 0)) n 0 false]] (hCK5b2 vip wt n pr w x po Z C q vs0 h0) (AV.tup [AV.sl (some (2, 0)) 0 0 false, int i64 2]) (hCK5b3 vip wt n pr w x po Z C q vs0 h0)) = true then
 K (AV.bool true) ((hCK5b4 vip wt n pr w x po Z C q vs0 h0))
 else none))
 else none) else none) else none) := by
  kernel_rfl

noncomputable def hCK0b0 (vip wt : Int) (n : Nat) (pr : Int) (w : Bool) (x : Nat → Int) (po : Int) (Z : List UInt8) (C : List AV) (q : Prop) (vs0 : List AV) (h0 : AHeap) (k : Int) : AHeap := []
noncomputable def hCK0b1 (vip wt : Int) (n : Nat) (pr : Int) (w : Bool) (x : Nat → Int) (po : Int) (Z : List UInt8) (C : List AV) (q : Prop) (vs0 : List AV) (h0 : AHeap) (k : Int) : AHeap := [cells [int i64 k, b8 pr, AV.bool w, b8 (x 0), b8 (x 1), b8 (x 2), b8 (x 3), b8 (x 4), b8 (x 5), b8 (x 6), b8 (x 7), b8 (x 8), b8 (x 9), b8 (x 10), b8 (x 11), b8 (x 12), b8 (x 13), b8 (x 14), b8 (x 15), int u16 po, AV.sl none 0 0 true] 21 Md.own none]
noncomputable def hCK0b2 (vip wt : Int) (n : Nat) (pr : Int) (w : Bool) (x : Nat → Int) (po : Int) (Z : List UInt8) (C : List AV) (q : Prop) (vs0 : List AV) (h0 : AHeap) (k : Int) : AHeap := [cells [int i64 k, b8 pr, AV.bool w, b8 (x 0), b8 (x 1), b8 (x 2), b8 (x 3), b8 (x 4), b8 (x 5), b8 (x 6), b8 (x 7), b8 (x 8), b8 (x 9), b8 (x 10), b8 (x 11), b8 (x 12), b8 (x 13), b8 (x 14), b8 (x 15), int u16 po, AV.sl (some (1, 0)) n 0 false] 21 Md.own none, ABlk.cells C 19 Md.own none]
noncomputable def hCK0b3 (vip wt : Int) (n : Nat) (pr : Int) (w : Bool) (x : Nat → Int) (po : Int) (Z : List UInt8) (C : List AV) (q : Prop) (vs0 : List AV) (h0 : AHeap) (k : Int) : AHeap := [cells [] 1 Md.own none]
noncomputable def hCK0b4 (vip wt : Int) (n : Nat) (pr : Int) (w : Bool) (x : Nat → Int) (po : Int) (Z : List UInt8) (C : List AV) (q : Prop) (vs0 : List AV) (h0 : AHeap) (k : Int) : AHeap := [cells [int i64 k, b8 pr, AV.bool w, b8 (x 0), b8 (x 1), b8 (x 2), b8 (x 3), b8 (x 4), b8 (x 5), b8 (x 6), b8 (x 7), b8 (x 8), b8 (x 9), b8 (x 10), b8 (x 11), b8 (x 12), b8 (x 13), b8 (x 14), b8 (x 15), int u16 po, AV.sl (some (1, 0)) n 0 false] 21 Md.own none, ABlk.cells C 19 Md.own none, cells [] 1 Md.own none]
theorem nfCK0b {R : Type} (vip wt : Int) (n : Nat) (pr : Int) (w : Bool) (x : Nat → Int) (po : Int) (Z : List UInt8) (C : List AV) (q : Prop) (vs0 : List AV) (h0 : AHeap) (k : Int) (K : AV → AHeap → Option R) :
 qrun Try.prog (tCK (.agg (.int .u8 pr :: (adF w x ++ [.int .u16 po]))) 2 []) 100 4 [(21, .bool false), (47, .bool false), (59, .bool false), (63, .bool false), (64, .bool false), (76, .bool false)] [(5, fixC q mCK vs0 h0 (.exit 0) (vCK k n wt n) (hCK k pr w x po C n))] 6 [.int .i64 k, .int .i64 vip, .int .i64 n, .int .i64 wt] [] K =
 (if decide ((n : Int) > 20) = false then
 (if cdec (Says eVof [int i64 vip] (hCK0b0 vip wt n pr w x po Z C q vs0 h0 k) (AV.agg [b8 pr, AV.bool w, b8 (x 0), b8 (x 1), b8 (x 2), b8 (x 3), b8 (x 4), b8 (x 5), b8 (x 6), b8 (x 7), b8 (x 8), b8 (x 9), b8 (x 10), b8 (x 11), b8 (x 12), b8 (x 13), b8 (x 14), b8 (x 15), int u16 po]) (hCK0b0 vip wt n pr w x po Z C q vs0 h0 k)) = true then
 (if cdec (q ∧ [int i64 k, int i64 (n : Int), int i64 wt, AV.ptr (some (0, 0)), int i64 0] = vs0 ∧ (hCK0b1 vip wt n pr w x po Z C q vs0 h0 k) = h0) = true then
 (if (k == 1) = false then
 (if (k == 2) = false then
 (if (k == 3) = false then
 (if (k == 5) = false then
 (if (k == 4) = false then
 (if cdec (EnR [AV.agg [int i64 k, b8 pr, AV.bool w, b8 (x 0), b8 (x 1), b8 (x 2), b8 (x 3), b8 (x 4), b8 (x 5), b8 (x 6), b8 (x 7), b8 (x 8), b8 (x 9), b8 (x 10), b8 (x 11), b8 (x 12), b8 (x 13), b8 (x 14), b8 (x 15), int u16 po, AV.sl (some (1, 0)) n 0 false]] (hCK0b2 vip wt n pr w x po Z C q vs0 h0 k) (AV.tup [AV.sl (some (2, 0)) 0 0 false, int i64 2]) (hCK0b3 vip wt n pr w x po Z C q vs0 h0 k)) = true then
 K (AV.bool true) ((hCK0b4 vip wt n pr w x po Z C q vs0 h0 k))
 else none) else none) else none) else none) else none) else none) else none) else none) else none) := by
  kernel_rfl


end Go.Proofs.Ytjlepcfeeicdfaa.L
