/- slices.IndexFunc over pairs of a queue: its rows. -/
import Derived.Test.YtdildbadafdbgaaBase
import Derived.Test.YtdildbadafdbgaaOctB
import Derived.Test.YtdildbadafdbgaaPairKit
set_option autoImplicit false
set_option maxRecDepth 100000
set_option linter.unusedVariables false
namespace Go.Proofs.Ytdildbadafdbgaa.L
open Go Go.Abs
open Go.IntKind
open Go.Abs.AV (int)
open Go.Abs.ABlk (cells)

def mIxib : List Bool := [true, true, false, false, true, false, false, true, true] ++ List.replicate 10 false
noncomputable abbrev LIxib := loopIn (bodyOf Try.prog 37) 0
def fIxib : AV := .fn (.func 38) [.ptr (some (1, 0))]
def vIxib (n : Nat) (r i : Int) : List AV := [.sl (some (0, 0)) n 0 false, fIxib, .int .i64 r, .int .i64 n, .int .i64 i]
def hIxib (C : List AV) (k : Int) : AHeap := [.cells C 2 .far none, .cells [AV.int .i64 k] 1 .far none]
noncomputable def hIxiba0 (n : Nat) (i : Int) (k : Int) (C : List AV) : AHeap := [ABlk.cells C 2 Md.far none, cells [int i64 k] 1 Md.far none, cells (List.take 2 (List.drop (0 + i.toNat * 2) C)) 2 Md.own none]
theorem nfIxiba (n : Nat) (i : Int) (k : Int) (C : List AV) :
 qround Try.prog [] 100 4 [(9, .bool true), (16, .bool false)] noT LIxib mIxib (vIxib n 0 i) (hIxib C k) =
 (if decide (i < (n : Int)) = true then
 (if 0 ≤ i ∧ i < (n : Int) then
 (if 0 + i.toNat * 2 + 2 ≤ C.length then
 (if isIntV i64 (List.take 2 (List.drop (0 + i.toNat * 2) C))[0]? = true then
 (if (intV (List.take 2 (List.drop (0 + i.toNat * 2) C))[0]? == intV (some (int i64 k))) = false then
 some ((AEx.norm, [AV.sl (some (0, 0)) n 0 false, AV.fn (Fn.func 38) [AV.ptr (some (1, 0))], int i64 0, int i64 (n : Int), int i64 (i64.wrap (i + 1))], (hIxiba0 n i k C)))
 else none) else none) else none) else none) else none) := by
  kernel_rfl

noncomputable def hIxibb0 (n : Nat) (i : Int) (k : Int) (C : List AV) : AHeap := [ABlk.cells C 2 Md.far none, cells [int i64 k] 1 Md.far none, cells (List.take 2 (List.drop (0 + i.toNat * 2) C)) 2 Md.own none]
theorem nfIxibb (n : Nat) (i : Int) (k : Int) (C : List AV) :
 qround Try.prog [] 100 4 [(9, .bool true), (16, .bool true)] noT LIxib mIxib (vIxib n 0 i) (hIxib C k) =
 (if decide (i < (n : Int)) = true then
 (if 0 ≤ i ∧ i < (n : Int) then
 (if 0 + i.toNat * 2 + 2 ≤ C.length then
 (if isIntV i64 (List.take 2 (List.drop (0 + i.toNat * 2) C))[0]? = true then
 (if (intV (List.take 2 (List.drop (0 + i.toNat * 2) C))[0]? == intV (some (int i64 k))) = true then
 some ((AEx.ret, [AV.sl (some (0, 0)) n 0 false, AV.fn (Fn.func 38) [AV.ptr (some (1, 0))], int i64 i, int i64 (n : Int), int i64 i], (hIxibb0 n i k C)))
 else none) else none) else none) else none) else none) := by
  kernel_rfl

noncomputable def hIxibs0 (n : Nat) (i : Int) (k : Int) (C : List AV) : AHeap := [ABlk.cells C 2 Md.far none, cells [int i64 k] 1 Md.far none]
theorem nfIxibs (n : Nat) (i : Int) (k : Int) (C : List AV) :
 qround Try.prog [] 100 4 [(9, .bool false)] noT LIxib mIxib (vIxib n 0 i) (hIxib C k) =
 (if decide (i < (n : Int)) = false then
 some ((AEx.exit 0, [AV.sl (some (0, 0)) n 0 false, AV.fn (Fn.func 38) [AV.ptr (some (1, 0))], int i64 0, int i64 (n : Int), int i64 i], (hIxibs0 n i k C)))
 else none) := by
  kernel_rfl

noncomputable def hIxibY0 (n : Nat) (r : Int) (k : Int) (C : List AV) (q : Prop) : AHeap := [ABlk.cells C 2 Md.far none, cells [int i64 k] 1 Md.far none]
theorem nfIxibY {R : Type} (n : Nat) (r : Int) (k : Int) (C : List AV) (q : Prop) (K : AV → AHeap → Option R) :
 qrun Try.prog [] 100 4 [] [(2, fixC q mIxib (vIxib n 0 0) (hIxib C k) .ret (vIxib n r r) (hIxib C k))] 37 [.sl (some (0, 0)) n 0 false, fIxib] (hIxib C k) K =
 (if cdec (q ∧ [AV.sl (some (0, 0)) n 0 false, AV.fn (Fn.func 38) [AV.ptr (some (1, 0))], int i64 0, int i64 (n : Int), int i64 0] = [AV.sl (some (0, 0)) n 0 false, fIxib, int i64 0, int i64 (n : Int), int i64 0] ∧ (hIxibY0 n r k C q) = (hIxibY0 n r k C q)) = true then
 K (int i64 r) ((hIxibY0 n r k C q))
 else none) := by
  kernel_rfl

noncomputable def hIxibX0 (n : Nat) (k : Int) (C : List AV) (q : Prop) : AHeap := [ABlk.cells C 2 Md.far none, cells [int i64 k] 1 Md.far none]
theorem nfIxibX {R : Type} (n : Nat) (k : Int) (C : List AV) (q : Prop) (K : AV → AHeap → Option R) :
 qrun Try.prog [] 100 4 [] [(2, fixC q mIxib (vIxib n 0 0) (hIxib C k) (.exit 0) (vIxib n 0 n) (hIxib C k))] 37 [.sl (some (0, 0)) n 0 false, fIxib] (hIxib C k) K =
 (if cdec (q ∧ [AV.sl (some (0, 0)) n 0 false, AV.fn (Fn.func 38) [AV.ptr (some (1, 0))], int i64 0, int i64 (n : Int), int i64 0] = [AV.sl (some (0, 0)) n 0 false, fIxib, int i64 0, int i64 (n : Int), int i64 0] ∧ (hIxibX0 n k C q) = (hIxibX0 n k C q)) = true then
 K (int i64 (-1)) ((hIxibX0 n k C q))
 else none) := by
  kernel_rfl


end Go.Proofs.Ytdildbadafdbgaa.L
