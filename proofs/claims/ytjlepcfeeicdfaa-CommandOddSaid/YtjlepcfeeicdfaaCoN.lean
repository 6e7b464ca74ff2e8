/- VipOf, Servers: rows. -/
import Derived.Test.YtjlepcfeeicdfaaScK
import Derived.Test.YtjlepcfeeicdfaaAddrB
set_option autoImplicit false
set_option maxRecDepth 100000
set_option linter.unusedVariables false
set_option linter.unusedSimpArgs false
namespace Go.Proofs.Ytjlepcfeeicdfaa.L
open Go Go.Abs
open Go.IntKind (u8 u16 u32 u64 i64)
open Go.Abs.AV (int)
open Go.Abs.ABlk (cells)
noncomputable def hVip00  : AHeap := [cells [b8 6, AV.bool false, b8 192, b8 168, b8 0, b8 1, b8 0, b8 0, b8 0, b8 0, b8 0, b8 0, b8 0, b8 0, b8 0, b8 0, b8 0, b8 0, int u16 80] 19 Md.own none, cells [b8 6, AV.bool false, b8 192, b8 168, b8 0, b8 1, b8 0, b8 0, b8 0, b8 0, b8 0, b8 0, b8 0, b8 0, b8 0, b8 0, b8 0, b8 0, int u16 80] 19 Md.own none]
theorem nfVip0 {R : Type} (K : AV → AHeap → Option R) :
 qrun Try.prog [] 100 4 [] [] 31 [.int .i64 0] [] K =
 K (AV.agg [b8 6, AV.bool false, b8 192, b8 168, b8 0, b8 1, b8 0, b8 0, b8 0, b8 0, b8 0, b8 0, b8 0, b8 0, b8 0, b8 0, b8 0, b8 0, int u16 80]) (hVip00) := by
  kernel_rfl

noncomputable def hVip10  : AHeap := [cells [b8 17, AV.bool false, b8 192, b8 168, b8 0, b8 1, b8 0, b8 0, b8 0, b8 0, b8 0, b8 0, b8 0, b8 0, b8 0, b8 0, b8 0, b8 0, int u16 80] 19 Md.own none, cells [b8 17, AV.bool false, b8 192, b8 168, b8 0, b8 1, b8 0, b8 0, b8 0, b8 0, b8 0, b8 0, b8 0, b8 0, b8 0, b8 0, b8 0, b8 0, int u16 80] 19 Md.own none]
theorem nfVip1 {R : Type} (K : AV → AHeap → Option R) :
 qrun Try.prog [] 100 4 [] [] 31 [.int .i64 1] [] K =
 K (AV.agg [b8 17, AV.bool false, b8 192, b8 168, b8 0, b8 1, b8 0, b8 0, b8 0, b8 0, b8 0, b8 0, b8 0, b8 0, b8 0, b8 0, b8 0, b8 0, int u16 80]) (hVip10) := by
  kernel_rfl

noncomputable def hVip20  : AHeap := [cells [b8 6, AV.bool true, b8 192, b8 168, b8 0, b8 1, b8 0, b8 0, b8 0, b8 0, b8 0, b8 0, b8 0, b8 0, b8 0, b8 0, b8 0, b8 0, int u16 80] 19 Md.own none, cells [b8 6, AV.bool true, b8 192, b8 168, b8 0, b8 1, b8 0, b8 0, b8 0, b8 0, b8 0, b8 0, b8 0, b8 0, b8 0, b8 0, b8 0, b8 0, int u16 80] 19 Md.own none]
theorem nfVip2 {R : Type} (K : AV → AHeap → Option R) :
 qrun Try.prog [] 100 4 [] [] 31 [.int .i64 2] [] K =
 K (AV.agg [b8 6, AV.bool true, b8 192, b8 168, b8 0, b8 1, b8 0, b8 0, b8 0, b8 0, b8 0, b8 0, b8 0, b8 0, b8 0, b8 0, b8 0, b8 0, int u16 80]) (hVip20) := by
  kernel_rfl

noncomputable def hVip30  : AHeap := [cells [b8 17, AV.bool true, b8 192, b8 168, b8 0, b8 1, b8 0, b8 0, b8 0, b8 0, b8 0, b8 0, b8 0, b8 0, b8 0, b8 0, b8 0, b8 0, int u16 80] 19 Md.own none, cells [b8 17, AV.bool true, b8 192, b8 168, b8 0, b8 1, b8 0, b8 0, b8 0, b8 0, b8 0, b8 0, b8 0, b8 0, b8 0, b8 0, b8 0, b8 0, int u16 80] 19 Md.own none]
theorem nfVip3 {R : Type} (K : AV → AHeap → Option R) :
 qrun Try.prog [] 100 4 [] [] 31 [.int .i64 3] [] K =
 K (AV.agg [b8 17, AV.bool true, b8 192, b8 168, b8 0, b8 1, b8 0, b8 0, b8 0, b8 0, b8 0, b8 0, b8 0, b8 0, b8 0, b8 0, b8 0, b8 0, int u16 80]) (hVip30) := by
  kernel_rfl

def vpr (q : Int) : Int := if q % 2 = 1 then 17 else 6
def vw (q : Int) : Bool := decide (2 ≤ q)
def vx (i : Nat) : Int := if i = 0 then 192 else if i = 1 then 168 else if i = 2 then 0 else if i = 3 then 1 else 0
def vipL (q : Int) : List AV := .int .u8 (vpr q) :: (adF (vw q) vx ++ [.int .u16 80])
def eVip : GEnt := fun args h => match args with
  | [.int .i64 q] => some (decide (0 ≤ q ∧ q < 4), .agg (vipL q), h)
  | _ => none
def eVof : GEnt := fun args h => match args with
  | [.int .i64 n] => some (true, .agg (vipL (n % 4)), h)
  | _ => none
noncomputable def tVo (v : AV) : Tbl := [(31, entF (eSay eVip [(1, v, [])]))]
noncomputable def hVo0 (n pr : Int) (w : Bool) (x : Nat → Int) (po : Int) : AHeap := [cells [b8 0, AV.bool false, b8 0, b8 0, b8 0, b8 0, b8 0, b8 0, b8 0, b8 0, b8 0, b8 0, b8 0, b8 0, b8 0, b8 0, b8 0, b8 0, int u16 0] 19 Md.own none]
noncomputable def hVo1 (n pr : Int) (w : Bool) (x : Nat → Int) (po : Int) : AHeap := []
noncomputable def hVo2 (n pr : Int) (w : Bool) (x : Nat → Int) (po : Int) : AHeap := [cells [b8 pr, AV.bool w, b8 (x 0), b8 (x 1), b8 (x 2), b8 (x 3), b8 (x 4), b8 (x 5), b8 (x 6), b8 (x 7), b8 (x 8), b8 (x 9), b8 (x 10), b8 (x 11), b8 (x 12), b8 (x 13), b8 (x 14), b8 (x 15), int u16 po] 19 Md.own none]
theorem nfVo {R : Type} (n pr : Int) (w : Bool) (x : Nat → Int) (po : Int) (K : AV → AHeap → Option R) :
 qrun Try.prog (tVo (.agg (.int .u8 pr :: (adF w x ++ [.int .u16 po])))) 100 4 [] [] 19 [.int .i64 n] [] K =
 (if cdec (Says eVip [int i64 ((i64.wrap (n.tmod 4 + 4)).tmod 4)] (hVo0 n pr w x po) (AV.agg [b8 pr, AV.bool w, b8 (x 0), b8 (x 1), b8 (x 2), b8 (x 3), b8 (x 4), b8 (x 5), b8 (x 6), b8 (x 7), b8 (x 8), b8 (x 9), b8 (x 10), b8 (x 11), b8 (x 12), b8 (x 13), b8 (x 14), b8 (x 15), int u16 po]) (hVo1 n pr w x po)) = true then
 K (AV.agg [b8 pr, AV.bool w, b8 (x 0), b8 (x 1), b8 (x 2), b8 (x 3), b8 (x 4), b8 (x 5), b8 (x 6), b8 (x 7), b8 (x 8), b8 (x 9), b8 (x 10), b8 (x 11), b8 (x 12), b8 (x 13), b8 (x 14), b8 (x 15), int u16 po]) ((hVo2 n pr w x po))
 else none) := by
  kernel_rfl


noncomputable def tSv : Tbl := [(21, entF eDip), (18, entF eRound)]
noncomputable abbrev SVL := loopIn (bodyOf Try.prog 20) 0
def mSv : List Bool := [true, true, false, false, false, true, true] ++ List.replicate 24 false
def vSv (n : Nat) (w : Bool) (m : Nat) (i : Int) : List AV := [.sl (some (0, 0)) n 0 false, .bool w, .sl (some (1, 0)) m 0 false, .int .i64 i]
def hSv (D C : List AV) : AHeap := [.cells D 1 .far none, .cells C 19 .own none]
noncomputable def hSvrR0 (D C : List AV) (n m : Nat) (w : Bool) (i : Int) : AHeap := [ABlk.cells D 1 Md.far none, ABlk.cells C 19 Md.ro none, cells [AV.bool w, b8 172, b8 16, b8 0, b8 (db3 i), b8 0, b8 0, b8 0, b8 0, b8 0, b8 0, b8 0, b8 0, b8 0, b8 0, b8 0, b8 0, int u16 (dport i), int i64 (i64.wrap (1 + intV D[0 + i.toNat * 1]? % 16))] 19 Md.own none, cells (List.take (m * 19) C ++ [AV.bool w, b8 172, b8 16, b8 0, b8 (db3 i), b8 0, b8 0, b8 0, b8 0, b8 0, b8 0, b8 0, b8 0, b8 0, b8 0, b8 0, b8 0, int u16 (dport i), int i64 (i64.wrap (1 + intV D[0 + i.toNat * 1]? % 16))]) 19 Md.own (some 1)]
theorem nfSvrR (D C : List AV) (n m : Nat) (w : Bool) (i : Int) :
 qround Try.prog tSv 100 4 [(14, .bool true)] noT SVL mSv (vSv n w m i) (hSv D C) =
 (if decide (i < (n : Int)) = true then
 (if decide (i < 32) = true then
 (if 0 ≤ i ∧ i < (n : Int) then
 (if isIntV i64 D[0 + i.toNat * 1]? = true then
 (if (2 * (m + 1) + 200) * 32 ≤ 281474976710656 ∧ some 19 = some 19 ∧ m + 1 ≤ 70368744177664 then
 (if 0 + m * 19 ≤ C.length then
 (if 0 = 0 ∧ 0 + m * 19 = C.length ∧ (0 < 1 ∨ 0 = 0) ∧ 19 = 19 ∧ [AV.bool w, b8 172, b8 16, b8 0, b8 (db3 i), b8 0, b8 0, b8 0, b8 0, b8 0, b8 0, b8 0, b8 0, b8 0, b8 0, b8 0, b8 0, int u16 (dport i), int i64 (i64.wrap (1 + intV D[0 + i.toNat * 1]? % 16))].all AV.isCell = true then
 (if isIntV i64 D[0 + i.toNat * 1]? = true then
 (if (int i64 (intV D[0 + i.toNat * 1]?)).beq (int i64 (intV D[0 + i.toNat * 1]?)) = true then
 some ((AEx.norm, [AV.sl (some (0, 0)) n 0 false, AV.bool w, AV.sl (some (3, 0)) (m + 1) 0 false, int i64 (i64.wrap (i + 1))], (hSvrR0 D C n m w i)))
 else none) else none) else none) else none) else none) else none) else none) else none) else none) := by
  kernel_rfl

noncomputable def hSvrS0 (D C : List AV) (n m : Nat) (w : Bool) (i : Int) : AHeap := [ABlk.cells D 1 Md.far none, ABlk.cells C 19 Md.own none]
theorem nfSvrS (D C : List AV) (n m : Nat) (w : Bool) (i : Int) :
 qround Try.prog tSv 100 4 [(14, .bool false)] noT SVL mSv (vSv n w m i) (hSv D C) =
 (if decide (i < (n : Int)) = true then
 (if decide (i < 32) = false then
 some ((AEx.exit 0, [AV.sl (some (0, 0)) n 0 false, AV.bool w, AV.sl (some (1, 0)) m 0 false, int i64 i], (hSvrS0 D C n m w i)))
 else none)
 else some ((AEx.exit 0, [AV.sl (some (0, 0)) n 0 false, AV.bool w, AV.sl (some (1, 0)) m 0 false, int i64 i], (hSvrS0 D C n m w i)))) := by
  kernel_rfl

noncomputable def hSv0 (D C : List AV) (n m : Nat) (w : Bool) (i : Int) (q : Prop) (vs0 : List AV) : AHeap := [ABlk.cells D 1 Md.far none]
noncomputable def hSv1 (D C : List AV) (n m : Nat) (w : Bool) (i : Int) (q : Prop) (vs0 : List AV) : AHeap := [ABlk.cells D 1 Md.far none, ABlk.cells C 19 Md.own none]
theorem nfSv {R : Type} (D C : List AV) (n m : Nat) (w : Bool) (i : Int) (q : Prop) (vs0 : List AV) (K : AV → AHeap → Option R) :
 qrun Try.prog tSv 100 4 [] [(3, fixC q mSv vs0 [.cells D 1 .far none] (.exit 0) (vSv n w m i) (hSv D C))] 20 [.sl (some (0, 0)) n 0 false, .bool w] [.cells D 1 .far none] K =
 (if cdec (q ∧ [AV.sl (some (0, 0)) n 0 false, AV.bool w, AV.sl none 0 0 true, int i64 0] = vs0 ∧ (hSv0 D C n m w i q vs0) = (hSv0 D C n m w i q vs0)) = true then
 K (AV.sl (some (1, 0)) m 0 false) ((hSv1 D C n m w i q vs0))
 else none) := by
  kernel_rfl


end Go.Proofs.Ytjlepcfeeicdfaa.L
