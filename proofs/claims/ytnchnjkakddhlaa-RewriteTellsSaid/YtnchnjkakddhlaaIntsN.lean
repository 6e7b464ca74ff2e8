/- bazaaralike.Ints: its rows. -/
import Derived.Test.YtnchnjkakddhlaaBase
import Derived.Test.YtnchnjkakddhlaaOctB
set_option autoImplicit false
set_option maxRecDepth 100000
set_option linter.unusedVariables false
namespace Go.Proofs.Ytnchnjkakddhlaa.L
open Go Go.Abs
open Go.IntKind (u8 u16 u32 u64 i64)
open Go.Abs.AV (int)
open Go.Abs.ABlk (cells)

def mInts : List Bool := [true, true, false, false, false, true] ++ List.replicate 20 false
noncomputable abbrev IL := loopIn (bodyOf Try.prog 10) 0
def vInts (n : Nat) (i : Int) : List AV := [.sl (some (0, 0)) n 0 false, .sl (some (1, 0)) n 0 false, .int .i64 i]
def hInts (l : List Int) : AHeap := [.cells (l.map (AV.int .i64)) 1 .far none, .cells (l.map (AV.int .i64)) 1 .far none]
noncomputable def hInts10 (l : List Int) (n : Nat) (i : Int) : AHeap := [cells (List.map (int i64) l) 1 Md.far none, cells (List.map (int i64) l) 1 Md.far none]
theorem nfInts1 (l : List Int) (n : Nat) (i : Int) :
 qround Try.prog [] 100 4 [(14, .bool true), (25, .bool false)] noT IL mInts (vInts n i) (hInts l) =
 (if decide (i < (n : Int)) = true then
 (if 0 ≤ i ∧ i < (n : Int) then
 (if isIntV i64 (List.map (int i64) l)[0 + i.toNat * 1]? = true then
 (if 0 ≤ i ∧ i < (n : Int) then
 (if isIntV i64 (List.map (int i64) l)[0 + i.toNat * 1]? = true then
 (if (intV (List.map (int i64) l)[0 + i.toNat * 1]? != intV (List.map (int i64) l)[0 + i.toNat * 1]?) = false then
 some ((AEx.norm, [AV.sl (some (0, 0)) n 0 false, AV.sl (some (1, 0)) n 0 false, int i64 (i64.wrap (i + 1))], (hInts10 l n i)))
 else none) else none) else none) else none) else none) else none) := by
  kernel_rfl

noncomputable def hIntss0 (l : List Int) (n : Nat) (i : Int) : AHeap := [cells (List.map (int i64) l) 1 Md.far none, cells (List.map (int i64) l) 1 Md.far none]
theorem nfIntss (l : List Int) (n : Nat) (i : Int) :
 qround Try.prog [] 100 4 [(14, .bool false)] noT IL mInts (vInts n i) (hInts l) =
 (if decide (i < (n : Int)) = false then
 some ((AEx.exit 0, [AV.sl (some (0, 0)) n 0 false, AV.sl (some (1, 0)) n 0 false, int i64 i], (hIntss0 l n i)))
 else none) := by
  kernel_rfl

noncomputable def hInts0 (l : List Int) (n : Nat) (q : Prop) : AHeap := [cells (List.map (int i64) l) 1 Md.far none, cells (List.map (int i64) l) 1 Md.far none]
theorem nfInts {R : Type} (l : List Int) (n : Nat) (q : Prop) (K : AV → AHeap → Option R) :
 qrun Try.prog [] 100 4 [] [(4, fixC q mInts (vInts n 0) (hInts l) (.exit 0) (vInts n n) (hInts l))] 10 [.sl (some (0, 0)) n 0 false, .sl (some (1, 0)) n 0 false] (hInts l) K =
 (if ((n : Int) != (n : Int)) = true then
 K (AV.bool false) ((hInts0 l n q))
 else (if cdec (q ∧ [AV.sl (some (0, 0)) n 0 false, AV.sl (some (1, 0)) n 0 false, int i64 0] = [AV.sl (some (0, 0)) n 0 false, AV.sl (some (1, 0)) n 0 false, int i64 0] ∧ (hInts0 l n q) = (hInts0 l n q)) = true then
 K (AV.bool true) ((hInts0 l n q))
 else none)) := by
  kernel_rfl


end Go.Proofs.Ytnchnjkakddhlaa.L
