/- rewrite.Differs: its rows. -/
import Derived.Test.YtnchnjkakddhlaaBase
import Derived.Test.YtnchnjkakddhlaaOctB
set_option autoImplicit false
set_option maxRecDepth 100000
set_option linter.unusedVariables false
namespace Go.Proofs.Ytnchnjkakddhlaa.L
open Go Go.Abs
open Go.IntKind (u8 u16 u32 u64 i64)
open Go.Abs.AV (int)
open Go.Abs.ABlk (cells)

def znb : List Bool := [true, true, false, false, true, false, false, false, false, false, true, true] ++ List.replicate 29 false
noncomputable abbrev DL := zb2 (zaB Try.prog 11) 0
def zqE (a b : List UInt8) (n : Nat) (N i : Int) : List AV := [slB 0 a, slB 1 b, .sl (some (2, 0)) n 0 false, .int .i64 N, .int .i64 i]
def zzY (a b : List UInt8) (N i : Int) : List AV := [slB 0 a, slB 1 b, .sl none 0 0 true, .int .i64 N, .int .i64 i]
def zqd (a b : List UInt8) (l : List Int) : zaa := [zaC a, zaC b, .cells (l.map (AV.int .i64)) 1 .own none]

noncomputable def zwK (a b : List UInt8) (l : List Int) (n : Nat) (i : Int) : zaa := [cells (bys a) 1 Md.far none, cells (bys b) 1 Md.far none, cells (List.map (int i64) l) 1 Md.ro none, cells [int i64 i] 1 Md.own none, cells (List.take (n * 1) (List.map (int i64) l) ++ [int i64 i]) 1 Md.own (some 2)]
theorem zzv (a b : List UInt8) (l : List Int) (n : Nat) (N i : Int) :
 zcX Try.prog [] 100 4 [(12, .bool true), (17, .bool true)] noT DL znb (zqE a b n N i) (zqd a b l) =
 (if decide (i < N) = true then
 (if decide (i ≥ (a.length : Int)) = true then
 (if (2 * (n + 1) + 200) * 8 ≤ 281474976710656 ∧ some 1 = some 1 ∧ n + 1 ≤ 70368744177664 then
 (if 0 + n * 1 ≤ (List.map (int i64) l).length then
 (if 0 = 0 ∧ 0 + n * 1 = (List.map (int i64) l).length ∧ (0 < 1 ∨ 0 = 0) ∧ 1 = 1 ∧ [int i64 i].all AV.isCell = true then
 some ((AEx.norm, [AV.sl (some (0, 0)) a.length 0 false, AV.sl (some (1, 0)) b.length 0 false, AV.sl (some (4, 0)) (n + 1) 0 false, int i64 N, int i64 (i64.wrap (i + 1))], (zwK a b l n i)))
 else none) else none) else none) else none) else none) := by
  kernel_rfl

noncomputable def zwy (a b : List UInt8) (l : List Int) (n : Nat) (i : Int) : zaa := [cells (bys a) 1 Md.far none, cells (bys b) 1 Md.far none, cells (List.map (int i64) l) 1 Md.ro none, cells [int i64 i] 1 Md.own none, cells (List.take (n * 1) (List.map (int i64) l) ++ [int i64 i]) 1 Md.own (some 2)]
theorem zy8 (a b : List UInt8) (l : List Int) (n : Nat) (N i : Int) :
 zcX Try.prog [] 100 4 [(12, .bool true), (17, .bool false), (22, .bool true)] noT DL znb (zqE a b n N i) (zqd a b l) =
 (if decide (i < N) = true then
 (if decide (i ≥ (a.length : Int)) = false then
 (if decide (i ≥ (b.length : Int)) = true then
 (if (2 * (n + 1) + 200) * 8 ≤ 281474976710656 ∧ some 1 = some 1 ∧ n + 1 ≤ 70368744177664 then
 (if 0 + n * 1 ≤ (List.map (int i64) l).length then
 (if 0 = 0 ∧ 0 + n * 1 = (List.map (int i64) l).length ∧ (0 < 1 ∨ 0 = 0) ∧ 1 = 1 ∧ [int i64 i].all AV.isCell = true then
 some ((AEx.norm, [AV.sl (some (0, 0)) a.length 0 false, AV.sl (some (1, 0)) b.length 0 false, AV.sl (some (4, 0)) (n + 1) 0 false, int i64 N, int i64 (i64.wrap (i + 1))], (zwy a b l n i)))
 else none) else none) else none) else none) else none) else none) := by
  kernel_rfl

noncomputable def zv7 (a b : List UInt8) (l : List Int) (n : Nat) (i : Int) : zaa := [cells (bys a) 1 Md.far none, cells (bys b) 1 Md.far none, cells (List.map (int i64) l) 1 Md.ro none, cells [int i64 i] 1 Md.own none, cells (List.take (n * 1) (List.map (int i64) l) ++ [int i64 i]) 1 Md.own (some 2)]
theorem zz9 (a b : List UInt8) (l : List Int) (n : Nat) (N i : Int) :
 zcX Try.prog [] 100 4 [(12, .bool true), (17, .bool false), (22, .bool false), (33, .bool true)] noT DL znb (zqE a b n N i) (zqd a b l) =
 (if decide (i < N) = true then
 (if decide (i ≥ (a.length : Int)) = false then
 (if decide (i ≥ (b.length : Int)) = false then
 (if 0 ≤ i ∧ i < (a.length : Int) then
 (if zaI u8 (bys a)[0 + i.toNat * 1]? = true then
 (if 0 ≤ i ∧ i < (b.length : Int) then
 (if zaI u8 (bys b)[0 + i.toNat * 1]? = true then
 (if (zad (bys a)[0 + i.toNat * 1]? != zad (bys b)[0 + i.toNat * 1]?) = true then
 (if (2 * (n + 1) + 200) * 8 ≤ 281474976710656 ∧ some 1 = some 1 ∧ n + 1 ≤ 70368744177664 then
 (if 0 + n * 1 ≤ (List.map (int i64) l).length then
 (if 0 = 0 ∧ 0 + n * 1 = (List.map (int i64) l).length ∧ (0 < 1 ∨ 0 = 0) ∧ 1 = 1 ∧ [int i64 i].all AV.isCell = true then
 some ((AEx.norm, [AV.sl (some (0, 0)) a.length 0 false, AV.sl (some (1, 0)) b.length 0 false, AV.sl (some (4, 0)) (n + 1) 0 false, int i64 N, int i64 (i64.wrap (i + 1))], (zv7 a b l n i)))
 else none) else none) else none) else none) else none) else none) else none) else none) else none) else none) else none) := by
  kernel_rfl

noncomputable def zzM (a b : List UInt8) (l : List Int) : zaa := [cells (bys a) 1 Md.far none, cells (bys b) 1 Md.far none, cells (List.map (int i64) l) 1 Md.own none]
theorem zAJ (a b : List UInt8) (l : List Int) (n : Nat) (N i : Int) :
 zcX Try.prog [] 100 4 [(12, .bool true), (17, .bool false), (22, .bool false), (33, .bool false)] noT DL znb (zqE a b n N i) (zqd a b l) =
 (if decide (i < N) = true then
 (if decide (i ≥ (a.length : Int)) = false then
 (if decide (i ≥ (b.length : Int)) = false then
 (if 0 ≤ i ∧ i < (a.length : Int) then
 (if zaI u8 (bys a)[0 + i.toNat * 1]? = true then
 (if 0 ≤ i ∧ i < (b.length : Int) then
 (if zaI u8 (bys b)[0 + i.toNat * 1]? = true then
 (if (zad (bys a)[0 + i.toNat * 1]? != zad (bys b)[0 + i.toNat * 1]?) = false then
 some ((AEx.norm, [AV.sl (some (0, 0)) a.length 0 false, AV.sl (some (1, 0)) b.length 0 false, AV.sl (some (2, 0)) n 0 false, int i64 N, int i64 (i64.wrap (i + 1))], (zzM a b l)))
 else none) else none) else none) else none) else none) else none) else none) else none) := by
  kernel_rfl

noncomputable def zAi (a b : List UInt8) (l : List Int) : zaa := [cells (bys a) 1 Md.far none, cells (bys b) 1 Md.far none, cells (List.map (int i64) l) 1 Md.own none]
theorem zzJ (a b : List UInt8) (l : List Int) (n : Nat) (N i : Int) :
 zcX Try.prog [] 100 4 [(12, .bool false)] noT DL znb (zqE a b n N i) (zqd a b l) =
 (if decide (i < N) = false then
 some ((AEx.exit 0, [AV.sl (some (0, 0)) a.length 0 false, AV.sl (some (1, 0)) b.length 0 false, AV.sl (some (2, 0)) n 0 false, int i64 N, int i64 i], (zAi a b l)))
 else none) := by
  kernel_rfl

noncomputable def zy4 (a b : List UInt8) : zaa := [cells (bys a) 1 Md.far none, cells (bys b) 1 Md.far none]
noncomputable def zBC (a b : List UInt8) (l : List Int) : zaa := [cells (bys a) 1 Md.far none, cells (bys b) 1 Md.far none, cells (List.map (int i64) l) 1 Md.own none]
theorem zBk {R : Type} (a b : List UInt8) (l : List Int) (n : Nat) (N : Int) (q : Prop) (K : AV → zaa → Option R) :
 zbs Try.prog [] 100 4 [] [(2, zzc q znb (zzY a b N 0) [zaC a, zaC b] (.exit 0) (zqE a b n N N) (zqd a b l))] 11 [slB 0 a, slB 1 b] [zaC a, zaC b] K =
 (if zaE (q ∧ [AV.sl (some (0, 0)) a.length 0 false, AV.sl (some (1, 0)) b.length 0 false, AV.sl none 0 0 true, int i64 (if true = true then if (b.length : Int) > (a.length : Int) then (b.length : Int) else (a.length : Int) else if (b.length : Int) < (a.length : Int) then (b.length : Int) else (a.length : Int)), int i64 0] = [AV.sl (some (0, 0)) a.length 0 false, AV.sl (some (1, 0)) b.length 0 false, AV.sl none 0 0 true, int i64 N, int i64 0] ∧ (zy4 a b) = (zy4 a b)) = true then
 K (AV.sl (some (2, 0)) n 0 false) ((zBC a b l))
 else none) := by
  kernel_rfl


end Go.Proofs.Ytnchnjkakddhlaa.L
