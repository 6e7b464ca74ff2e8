/- slices.IndexFunc over pairs of a queue: its rows. -/
import Derived.Test.YtdildbadafdbgaaBase
import Derived.Test.YtdildbadafdbgaaOctB
import Derived.Test.YtdildbadafdbgaaPairKit
set_option autoImplicit false
set_option maxRecDepth 100000
set_option linter.unusedVariables false
namespace Go.Proofs.Ytdildbadafdbgaa.L
open Go Go.Abs
open Go.IntKind
open Go.Abs.AV (int)
open Go.Abs.ABlk (cells)

def mIxsi : List Bool := [true, true, false, false, true, false, false, true, true] ++ List.replicate 10 false
noncomputable abbrev LIxsi := loopIn (bodyOf Try.prog 39) 0
def fIxsi : AV := .fn (.func 40) [.ptr (some (1, 0))]
def vIxsi (n : Nat) (r i : Int) : List AV := [.sl (some (0, 0)) n 0 false, fIxsi, .int .i64 r, .int .i64 n, .int .i64 i]
def hIxsi (C : List AV) (k : List UInt8) : AHeap := [.cells C 2 .far none, .cells [AV.str k] 1 .far none]
noncomputable def hIxsia0 (n : Nat) (i : Int) (k : List UInt8) (C : List AV) : AHeap := [ABlk.cells C 2 Md.far none, cells [AV.str k] 1 Md.far none, cells (List.take 2 (List.drop (0 + i.toNat * 2) C)) 2 Md.own none]
theorem nfIxsia (n : Nat) (i : Int) (k : List UInt8) (C : List AV) :
 qround Try.prog [] 100 4 [(9, .bool true), (16, .bool false)] noT LIxsi mIxsi (vIxsi n 0 i) (hIxsi C k) =
 (if decide (i < (n : Int)) = true then
 (if 0 ≤ i ∧ i < (n : Int) then
 (if 0 + i.toNat * 2 + 2 ≤ C.length then
 (if isStrV (List.take 2 (List.drop (0 + i.toNat * 2) C))[0]? = true then
 (if decide (strV (List.take 2 (List.drop (0 + i.toNat * 2) C))[0]? = strV (some (AV.str k))) = false then
 some ((AEx.norm, [AV.sl (some (0, 0)) n 0 false, AV.fn (Fn.func 40) [AV.ptr (some (1, 0))], int i64 0, int i64 (n : Int), int i64 (i64.wrap (i + 1))], (hIxsia0 n i k C)))
 else none) else none) else none) else none) else none) := by
  kernel_rfl

noncomputable def hIxsib0 (n : Nat) (i : Int) (k : List UInt8) (C : List AV) : AHeap := [ABlk.cells C 2 Md.far none, cells [AV.str k] 1 Md.far none, cells (List.take 2 (List.drop (0 + i.toNat * 2) C)) 2 Md.own none]
theorem nfIxsib (n : Nat) (i : Int) (k : List UInt8) (C : List AV) :
 qround Try.prog [] 100 4 [(9, .bool true), (16, .bool true)] noT LIxsi mIxsi (vIxsi n 0 i) (hIxsi C k) =
 (if decide (i < (n : Int)) = true then
 (if 0 ≤ i ∧ i < (n : Int) then
 (if 0 + i.toNat * 2 + 2 ≤ C.length then
 (if isStrV (List.take 2 (List.drop (0 + i.toNat * 2) C))[0]? = true then
 (if decide (strV (List.take 2 (List.drop (0 + i.toNat * 2) C))[0]? = strV (some (AV.str k))) = true then
 some ((AEx.ret, [AV.sl (some (0, 0)) n 0 false, AV.fn (Fn.func 40) [AV.ptr (some (1, 0))], int i64 i, int i64 (n : Int), int i64 i], (hIxsib0 n i k C)))
 else none) else none) else none) else none) else none) := by
  kernel_rfl

noncomputable def hIxsis0 (n : Nat) (i : Int) (k : List UInt8) (C : List AV) : AHeap := [ABlk.cells C 2 Md.far none, cells [AV.str k] 1 Md.far none]
theorem nfIxsis (n : Nat) (i : Int) (k : List UInt8) (C : List AV) :
 qround Try.prog [] 100 4 [(9, .bool false)] noT LIxsi mIxsi (vIxsi n 0 i) (hIxsi C k) =
 (if decide (i < (n : Int)) = false then
 some ((AEx.exit 0, [AV.sl (some (0, 0)) n 0 false, AV.fn (Fn.func 40) [AV.ptr (some (1, 0))], int i64 0, int i64 (n : Int), int i64 i], (hIxsis0 n i k C)))
 else none) := by
  kernel_rfl

noncomputable def hIxsiY0 (n : Nat) (r : Int) (k : List UInt8) (C : List AV) (q : Prop) : AHeap := [ABlk.cells C 2 Md.far none, cells [AV.str k] 1 Md.far none]
theorem nfIxsiY {R : Type} (n : Nat) (r : Int) (k : List UInt8) (C : List AV) (q : Prop) (K : AV → AHeap → Option R) :
 qrun Try.prog [] 100 4 [] [(2, fixC q mIxsi (vIxsi n 0 0) (hIxsi C k) .ret (vIxsi n r r) (hIxsi C k))] 39 [.sl (some (0, 0)) n 0 false, fIxsi] (hIxsi C k) K =
 (if cdec (q ∧ [AV.sl (some (0, 0)) n 0 false, AV.fn (Fn.func 40) [AV.ptr (some (1, 0))], int i64 0, int i64 (n : Int), int i64 0] = [AV.sl (some (0, 0)) n 0 false, fIxsi, int i64 0, int i64 (n : Int), int i64 0] ∧ (hIxsiY0 n r k C q) = (hIxsiY0 n r k C q)) = true then
 K (int i64 r) ((hIxsiY0 n r k C q))
 else none) := by
  kernel_rfl

noncomputable def hIxsiX0 (n : Nat) (k : List UInt8) (C : List AV) (q : Prop) : AHeap := [ABlk.cells C 2 Md.far none, cells [AV.str k] 1 Md.far none]
theorem nfIxsiX {R : Type} (n : Nat) (k : List UInt8) (C : List AV) (q : Prop) (K : AV → AHeap → Option R) :
 qrun Try.prog [] 100 4 [] [(2, fixC q mIxsi (vIxsi n 0 0) (hIxsi C k) (.exit 0) (vIxsi n 0 n) (hIxsi C k))] 39 [.sl (some (0, 0)) n 0 false, fIxsi] (hIxsi C k) K =
 (if cdec (q ∧ [AV.sl (some (0, 0)) n 0 false, AV.fn (Fn.func 40) [AV.ptr (some (1, 0))], int i64 0, int i64 (n : Int), int i64 0] = [AV.sl (some (0, 0)) n 0 false, fIxsi, int i64 0, int i64 (n : Int), int i64 0] ∧ (hIxsiX0 n k C q) = (hIxsiX0 n k C q)) = true then
 K (int i64 (-1)) ((hIxsiX0 n k C q))
 else none) := by
  kernel_rfl


end Go.Proofs.Ytdildbadafdbgaa.L
