/- Which member may not be: rows of IndexFunc. -/
import Derived.Test.YtjlepcfeeicdfaaRdK
set_option autoImplicit false
set_option maxRecDepth 100000
set_option linter.unusedVariables false
set_option linter.unusedSimpArgs false
namespace Go.Proofs.Ytjlepcfeeicdfaa.L
open Go Go.Abs
open Go.IntKind (u8 u16 u32 u64 i64)
open Go.Abs.AV (int)
open Go.Abs.ABlk (cells)

noncomputable abbrev MXL := loopIn (bodyOf Try.prog 44) 0
def mMx : List Bool := List.replicate 2 true ++ List.replicate 2 false ++ List.replicate 1 true ++ List.replicate 2 false ++ List.replicate 2 true ++ List.replicate 10 false
noncomputable def tMx : Tbl := [(29, entF eValD)]
theorem tMxOk : ∀ f E, tMx.find f = some E → SoundE Try.prog f E := find_cons sPVal (find_nil _)
def fMx (b : Nat) : AV := .fn (.func 36) [.ptr (some (b, 0))]
def vMx (n : Nat) (r i : Int) : List AV := [.sl (some (0, 0)) n 0 false, fMx 1, .int .i64 r, .int .i64 n, .int .i64 i]
def hMx (C : List AV) (k : Int) (X : List AV) (B2 : ABlk) : AHeap := [.cells C 19 .far none, .cells (.int .i64 k :: X) 21 .far none, B2]
noncomputable def hMxa0 (C : List AV) (X : List AV) (B2 : ABlk) (n : Nat) (k i : Int) : AHeap := [ABlk.cells C 19 Md.far none, cells (int i64 k :: X) 21 Md.far none, B2, cells (List.take 19 (List.drop (0 + i.toNat * 19) C)) 19 Md.own none]
theorem nfMxa (C : List AV) (X : List AV) (B2 : ABlk) (n : Nat) (k i : Int) :
 qround Try.prog tMx 100 4 [(9, .bool true), (16, .bool false)] noT MXL mMx (vMx n 0 i) (hMx C k X B2) =
 (if decide (i < (n : Int)) = true then
 (if 0 ≤ i ∧ i < (n : Int) then
 (if 0 + i.toNat * 19 + 19 ≤ C.length then
 (if 17 ≤ (List.take 19 (List.drop (0 + i.toNat * 19) C)).length then
 (if cdec (IsAdr (List.take 17 (List.take 19 (List.drop (0 + i.toNat * 19) C)))) = true then
 (if (!opq (adrValid (List.take 17 (List.take 19 (List.drop (0 + i.toNat * 19) C))))) = true then
 none
 else (if isIntV i64 (List.take 19 (List.drop (0 + i.toNat * 19) C))[18]? = true then
 (if decide (intV (List.take 19 (List.drop (0 + i.toNat * 19) C))[18]? < 0) = true then
 none
 else (if isIntV i64 (List.take 19 (List.drop (0 + i.toNat * 19) C))[18]? = true then
 (if decide (intV (List.take 19 (List.drop (0 + i.toNat * 19) C))[18]? > 255) = true then
 none
 else (if (intV (some (int i64 k)) == 4) = true then
 (if isIntV i64 (List.take 19 (List.drop (0 + i.toNat * 19) C))[18]? = true then
 (if (intV (List.take 19 (List.drop (0 + i.toNat * 19) C))[18]? != 0) = false then
 some ((AEx.norm, [AV.sl (some (0, 0)) n 0 false, AV.fn (Fn.func 36) [AV.ptr (some (1, 0))], int i64 0, int i64 (n : Int), int i64 (i64.wrap (i + 1))], (hMxa0 C X B2 n k i)))
 else none) else none)
 else some ((AEx.norm, [AV.sl (some (0, 0)) n 0 false, AV.fn (Fn.func 36) [AV.ptr (some (1, 0))], int i64 0, int i64 (n : Int), int i64 (i64.wrap (i + 1))], (hMxa0 C X B2 n k i)))))
 else none))
 else none))
 else none) else none) else none) else none) else none) := by
  kernel_rfl

noncomputable def hMxb0 (C : List AV) (X : List AV) (B2 : ABlk) (n : Nat) (k i : Int) : AHeap := [ABlk.cells C 19 Md.far none, cells (int i64 k :: X) 21 Md.far none, B2, cells (List.take 19 (List.drop (0 + i.toNat * 19) C)) 19 Md.own none]
theorem nfMxb (C : List AV) (X : List AV) (B2 : ABlk) (n : Nat) (k i : Int) :
 qround Try.prog tMx 100 4 [(9, .bool true), (16, .bool true)] noT MXL mMx (vMx n 0 i) (hMx C k X B2) =
 (if decide (i < (n : Int)) = true then
 (if 0 ≤ i ∧ i < (n : Int) then
 (if 0 + i.toNat * 19 + 19 ≤ C.length then
 (if 17 ≤ (List.take 19 (List.drop (0 + i.toNat * 19) C)).length then
 (if cdec (IsAdr (List.take 17 (List.take 19 (List.drop (0 + i.toNat * 19) C)))) = true then
 (if (!opq (adrValid (List.take 17 (List.take 19 (List.drop (0 + i.toNat * 19) C))))) = true then
 some ((AEx.ret, [AV.sl (some (0, 0)) n 0 false, AV.fn (Fn.func 36) [AV.ptr (some (1, 0))], int i64 i, int i64 (n : Int), int i64 i], (hMxb0 C X B2 n k i)))
 else (if isIntV i64 (List.take 19 (List.drop (0 + i.toNat * 19) C))[18]? = true then
 (if decide (intV (List.take 19 (List.drop (0 + i.toNat * 19) C))[18]? < 0) = true then
 some ((AEx.ret, [AV.sl (some (0, 0)) n 0 false, AV.fn (Fn.func 36) [AV.ptr (some (1, 0))], int i64 i, int i64 (n : Int), int i64 i], (hMxb0 C X B2 n k i)))
 else (if isIntV i64 (List.take 19 (List.drop (0 + i.toNat * 19) C))[18]? = true then
 (if decide (intV (List.take 19 (List.drop (0 + i.toNat * 19) C))[18]? > 255) = true then
 some ((AEx.ret, [AV.sl (some (0, 0)) n 0 false, AV.fn (Fn.func 36) [AV.ptr (some (1, 0))], int i64 i, int i64 (n : Int), int i64 i], (hMxb0 C X B2 n k i)))
 else (if (intV (some (int i64 k)) == 4) = true then
 (if isIntV i64 (List.take 19 (List.drop (0 + i.toNat * 19) C))[18]? = true then
 (if (intV (List.take 19 (List.drop (0 + i.toNat * 19) C))[18]? != 0) = true then
 some ((AEx.ret, [AV.sl (some (0, 0)) n 0 false, AV.fn (Fn.func 36) [AV.ptr (some (1, 0))], int i64 i, int i64 (n : Int), int i64 i], (hMxb0 C X B2 n k i)))
 else none) else none) else none))
 else none))
 else none))
 else none) else none) else none) else none) else none) := by
  kernel_rfl

noncomputable def hMxs0 (C : List AV) (X : List AV) (B2 : ABlk) (n : Nat) (k i : Int) : AHeap := [ABlk.cells C 19 Md.far none, cells (int i64 k :: X) 21 Md.far none, B2]
theorem nfMxs (C : List AV) (X : List AV) (B2 : ABlk) (n : Nat) (k i : Int) :
 qround Try.prog tMx 100 4 [(9, .bool false)] noT MXL mMx (vMx n 0 i) (hMx C k X B2) =
 (if decide (i < (n : Int)) = false then
 some ((AEx.exit 0, [AV.sl (some (0, 0)) n 0 false, AV.fn (Fn.func 36) [AV.ptr (some (1, 0))], int i64 0, int i64 (n : Int), int i64 i], (hMxs0 C X B2 n k i)))
 else none) := by
  kernel_rfl

noncomputable def hMxe0 (q : Prop) (C X : List AV) (B2 : ABlk) (n : Nat) (k r i : Int) : AHeap := [ABlk.cells C 19 Md.far none, cells (int i64 k :: X) 21 Md.far none, B2]
theorem nfMxe {R : Type} (q : Prop) (C X : List AV) (B2 : ABlk) (n : Nat) (k r i : Int) (K : AV → AHeap → Option R) :
 qrun Try.prog tMx 100 4 [] [(2, fixC q mMx (vMx n 0 0) (hMx C k X B2) (.exit 0) (vMx n r i) (hMx C k X B2))] 44 [.sl (some (0, 0)) n 0 false, fMx 1] (hMx C k X B2) K =
 (if cdec (q ∧ [AV.sl (some (0, 0)) n 0 false, AV.fn (Fn.func 36) [AV.ptr (some (1, 0))], int i64 0, int i64 (n : Int), int i64 0] = [AV.sl (some (0, 0)) n 0 false, AV.fn (Fn.func 36) [AV.ptr (some (1, 0))], int i64 0, int i64 (n : Int), int i64 0] ∧ (hMxe0 q C X B2 n k r i) = (hMxe0 q C X B2 n k r i)) = true then
 K (int i64 (-1)) ((hMxe0 q C X B2 n k r i))
 else none) := by
  kernel_rfl

noncomputable def hMxr0 (q : Prop) (C X : List AV) (B2 : ABlk) (n : Nat) (k r i : Int) : AHeap := [ABlk.cells C 19 Md.far none, cells (int i64 k :: X) 21 Md.far none, B2]
theorem nfMxr {R : Type} (q : Prop) (C X : List AV) (B2 : ABlk) (n : Nat) (k r i : Int) (K : AV → AHeap → Option R) :
 qrun Try.prog tMx 100 4 [] [(2, fixC q mMx (vMx n 0 0) (hMx C k X B2) .ret (vMx n r i) (hMx C k X B2))] 44 [.sl (some (0, 0)) n 0 false, fMx 1] (hMx C k X B2) K =
 (if cdec (q ∧ [AV.sl (some (0, 0)) n 0 false, AV.fn (Fn.func 36) [AV.ptr (some (1, 0))], int i64 0, int i64 (n : Int), int i64 0] = [AV.sl (some (0, 0)) n 0 false, AV.fn (Fn.func 36) [AV.ptr (some (1, 0))], int i64 0, int i64 (n : Int), int i64 0] ∧ (hMxr0 q C X B2 n k r i) = (hMxr0 q C X B2 n k r i)) = true then
 K (int i64 r) ((hMxr0 q C X B2 n k r i))
 else none) := by
  kernel_rfl


end Go.Proofs.Ytjlepcfeeicdfaa.L
