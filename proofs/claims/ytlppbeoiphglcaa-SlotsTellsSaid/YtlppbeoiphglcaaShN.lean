/- slots.Shares: its rows. -/
import Derived.Test.YtlppbeoiphglcaaChkK
set_option autoImplicit false
set_option maxRecDepth 100000
set_option linter.unusedVariables false
set_option linter.unusedSimpArgs false
namespace Go.Proofs.Ytlppbeoiphglcaa.L
open Go Go.Abs
open Go.IntKind
open Go.Abs.AV (int)
open Go.Abs.ABlk (cells)

noncomputable abbrev MXL := loopIn (bodyOf Try.prog 29) 0
noncomputable abbrev IXL := loopIn (bodyOf Try.prog 28) 0
noncomputable abbrev SH1 := loopIn (bodyOf Try.prog 15) 0
noncomputable abbrev SH2 := loopIn (bodyOf Try.prog 15) 1
noncomputable abbrev SH3 := loopIn (bodyOf Try.prog 15) 2
def mMx : List Bool := List.replicate 1 true ++ List.replicate 2 false ++ List.replicate 2 true ++ List.replicate 20 false
def mIx : List Bool := List.replicate 2 true ++ List.replicate 2 false ++ List.replicate 1 true ++ List.replicate 2 false ++ List.replicate 2 true ++ List.replicate 10 false
def mSh1 : List Bool := List.replicate 2 true ++ List.replicate 2 false ++ List.replicate 3 true ++ List.replicate 23 false ++ List.replicate 3 true ++ List.replicate 61 false
def mSh2 : List Bool := List.replicate 1 false ++ List.replicate 1 true ++ List.replicate 2 false ++ List.replicate 3 true ++ List.replicate 2 false ++ List.replicate 1 true ++ List.replicate 34 false ++ List.replicate 3 true ++ List.replicate 47 false
def mSh3 : List Bool := List.replicate 4 false ++ List.replicate 1 true ++ List.replicate 1 false ++ List.replicate 1 true ++ List.replicate 2 false ++ List.replicate 1 true ++ List.replicate 84 false
def vMx (n : Nat) (m i : Int) : List AV := [.sl (some (0, 0)) n 0 false, .int .i64 m, .int .i64 i]
def vIx (n : Nat) (v r i : Int) : List AV := [.sl (some (0, 0)) n 0 false, .int .i64 v, .int .i64 r, .int .i64 n, .int .i64 i]
def hI (L : List AV) : AHeap := [.cells L 1 .far none]
abbrev intL (l : List Int) : List AV := l.map (AV.int .i64)
def ilOf (C : List AV) : List Int := C.map fun | .int _ n => n | _ => 0
def maxI (l : List Int) : Int := l.foldl (fun m x => max m x) (l.getD 0 0)
def idxI (l : List Int) (v : Int) : Int := if l.findIdx (fun x => decide (v = x)) < l.length then l.findIdx (fun x => decide (v = x)) else -1
noncomputable def eMax : GEnt := fun args h => match args with
  | [a] => some (cdec (rowI h a (ilOf (rowOf h a)) ∧ 0 < nOf a ∧ nOf a ≤ 100000), .int .i64 (opq (maxI (ilOf (rowOf h a)))), h)
  | _ => none
noncomputable def eIdx : GEnt := fun args h => match args with
  | [a, .int .i64 v] => some (cdec (rowI h a (ilOf (rowOf h a)) ∧ nOf a ≤ 100000), .int .i64 (opq (idxI (ilOf (rowOf h a)) v)), h)
  | _ => none
noncomputable def eCk : GEnt := fun args h => match args with
  | [a] => some (cdec (CkR [a] h (.int .i64 (opq (chkP (plOf (rowOf h a))))) []), .int .i64 (opq (chkP (plOf (rowOf h a)))), h)
  | _ => none
noncomputable def tSh : Tbl := [(29, entF eMax), (28, entF eIdx), (12, entF eCk)]
def vSh1 (k : Nat) (n s i : Int) : List AV := [.sl (some (0, 0)) k 0 false, .int .i64 n, .sl none 0 0 true, .int .i64 s, .int .i64 n, .sl (some (0, 0)) k 0 false, .int .i64 k, .int .i64 i]
def vSh2 (k o : Nat) (n s l i : Int) : List AV := [.int .i64 n, .sl (some (2, 0)) o 0 false, .int .i64 s, .int .i64 l, .sl (some (1, 0)) k 0 false, .sl (some (0, 0)) k 0 false, .int .i64 k, .int .i64 i]
def vSh2z (k : Nat) (n s l i : Int) : List AV := [.int .i64 n, .sl none 0 0 true, .int .i64 s, .int .i64 l, .sl (some (1, 0)) k 0 false, .sl (some (0, 0)) k 0 false, .int .i64 k, .int .i64 i]
def vSh3 (k o : Nat) (l : Int) : List AV := [.sl (some (2, 0)) o 0 false, .int .i64 l, .sl (some (1, 0)) k 0 false]
def hSh (C R O : List AV) : AHeap := [.cells C 19 .far none, .cells R 1 .own none, .cells O 1 .own none]

noncomputable def hMxa0 (L : List AV) (n : Nat) (m i : Int) : AHeap := [ABlk.cells L 1 Md.far none]
theorem nfMxa (L : List AV) (n : Nat) (m i : Int) :
 qround Try.prog [] 100 4 [(15, .bool true)] noT MXL mMx (vMx n m i) (hI L) =
 (if decide (i < (n : Int)) = true then
 (if 0 ≤ i ∧ i < (n : Int) then
 (if isIntV i64 L[0 + i.toNat * 1]? = true then
 some ((AEx.norm, [AV.sl (some (0, 0)) n 0 false, int i64 (if true = true then if intV L[0 + i.toNat * 1]? > m then intV L[0 + i.toNat * 1]? else m else if intV L[0 + i.toNat * 1]? < m then intV L[0 + i.toNat * 1]? else m), int i64 (i64.wrap (i + 1))], (hMxa0 L n m i)))
 else none) else none) else none) := by
  kernel_rfl

noncomputable def hMxs0 (L : List AV) (n : Nat) (m i : Int) : AHeap := [ABlk.cells L 1 Md.far none]
theorem nfMxs (L : List AV) (n : Nat) (m i : Int) :
 qround Try.prog [] 100 4 [(15, .bool false)] noT MXL mMx (vMx n m i) (hI L) =
 (if decide (i < (n : Int)) = false then
 some ((AEx.exit 0, [AV.sl (some (0, 0)) n 0 false, int i64 m, int i64 i], (hMxs0 L n m i)))
 else none) := by
  kernel_rfl

noncomputable def hMx0 (q : Prop) (L : List AV) (n : Nat) (m0 m i : Int) : AHeap := [ABlk.cells L 1 Md.far none]
theorem nfMx {R : Type} (q : Prop) (L : List AV) (n : Nat) (m0 m i : Int) (K : AV → AHeap → Option R) :
 qrun Try.prog [] 100 4 [(7, .bool false)] [(5, fixC q mMx (vMx n m0 1) (hI L) (.exit 0) (vMx n m i) (hI L))] 29 [.sl (some (0, 0)) n 0 false] (hI L) K =
 (if decide ((n : Int) < 1) = false then
 (if Int.ofNat 0 ≤ Int.ofNat 0 ∧ 0 < (n : Int) then
 (if isIntV i64 L[0]? = true then
 (if cdec (q ∧ [AV.sl (some (0, 0)) n 0 false, int i64 (intV L[0]?), int i64 1] = [AV.sl (some (0, 0)) n 0 false, int i64 m0, int i64 1] ∧ (hMx0 q L n m0 m i) = (hMx0 q L n m0 m i)) = true then
 K (int i64 m) ((hMx0 q L n m0 m i))
 else none) else none) else none) else none) := by
  kernel_rfl

noncomputable def hIxa0 (L : List AV) (n : Nat) (v i : Int) : AHeap := [ABlk.cells L 1 Md.far none]
theorem nfIxa (L : List AV) (n : Nat) (v i : Int) :
 qround Try.prog [] 100 4 [(9, .bool true), (16, .bool false)] noT IXL mIx (vIx n v 0 i) (hI L) =
 (if decide (i < (n : Int)) = true then
 (if 0 ≤ i ∧ i < (n : Int) then
 (if isIntV i64 L[0 + i.toNat * 1]? = true then
 (if (v == intV L[0 + i.toNat * 1]?) = false then
 some ((AEx.norm, [AV.sl (some (0, 0)) n 0 false, int i64 v, int i64 0, int i64 (n : Int), int i64 (i64.wrap (i + 1))], (hIxa0 L n v i)))
 else none) else none) else none) else none) := by
  kernel_rfl

noncomputable def hIxb0 (L : List AV) (n : Nat) (v i : Int) : AHeap := [ABlk.cells L 1 Md.far none]
theorem nfIxb (L : List AV) (n : Nat) (v i : Int) :
 qround Try.prog [] 100 4 [(9, .bool true), (16, .bool true)] noT IXL mIx (vIx n v 0 i) (hI L) =
 (if decide (i < (n : Int)) = true then
 (if 0 ≤ i ∧ i < (n : Int) then
 (if isIntV i64 L[0 + i.toNat * 1]? = true then
 (if (v == intV L[0 + i.toNat * 1]?) = true then
 some ((AEx.ret, [AV.sl (some (0, 0)) n 0 false, int i64 v, int i64 i, int i64 (n : Int), int i64 i], (hIxb0 L n v i)))
 else none) else none) else none) else none) := by
  kernel_rfl

noncomputable def hIxs0 (L : List AV) (n : Nat) (v i : Int) : AHeap := [ABlk.cells L 1 Md.far none]
theorem nfIxs (L : List AV) (n : Nat) (v i : Int) :
 qround Try.prog [] 100 4 [(9, .bool false)] noT IXL mIx (vIx n v 0 i) (hI L) =
 (if decide (i < (n : Int)) = false then
 some ((AEx.exit 0, [AV.sl (some (0, 0)) n 0 false, int i64 v, int i64 0, int i64 (n : Int), int i64 i], (hIxs0 L n v i)))
 else none) := by
  kernel_rfl

noncomputable def hIxe0 (q : Prop) (L : List AV) (n : Nat) (v r i : Int) : AHeap := [ABlk.cells L 1 Md.far none]
theorem nfIxe {R : Type} (q : Prop) (L : List AV) (n : Nat) (v r i : Int) (K : AV → AHeap → Option R) :
 qrun Try.prog [] 100 4 [] [(2, fixC q mIx (vIx n v 0 0) (hI L) (.exit 0) (vIx n v r i) (hI L))] 28 [.sl (some (0, 0)) n 0 false, .int .i64 v] (hI L) K =
 (if cdec (q ∧ [AV.sl (some (0, 0)) n 0 false, int i64 v, int i64 0, int i64 (n : Int), int i64 0] = [AV.sl (some (0, 0)) n 0 false, int i64 v, int i64 0, int i64 (n : Int), int i64 0] ∧ (hIxe0 q L n v r i) = (hIxe0 q L n v r i)) = true then
 K (int i64 (-1)) ((hIxe0 q L n v r i))
 else none) := by
  kernel_rfl

noncomputable def hIxr0 (q : Prop) (L : List AV) (n : Nat) (v r i : Int) : AHeap := [ABlk.cells L 1 Md.far none]
theorem nfIxr {R : Type} (q : Prop) (L : List AV) (n : Nat) (v r i : Int) (K : AV → AHeap → Option R) :
 qrun Try.prog [] 100 4 [] [(2, fixC q mIx (vIx n v 0 0) (hI L) .ret (vIx n v r i) (hI L))] 28 [.sl (some (0, 0)) n 0 false, .int .i64 v] (hI L) K =
 (if cdec (q ∧ [AV.sl (some (0, 0)) n 0 false, int i64 v, int i64 0, int i64 (n : Int), int i64 0] = [AV.sl (some (0, 0)) n 0 false, int i64 v, int i64 0, int i64 (n : Int), int i64 0] ∧ (hIxr0 q L n v r i) = (hIxr0 q L n v r i)) = true then
 K (int i64 r) ((hIxr0 q L n v r i))
 else none) := by
  kernel_rfl

noncomputable def hSh1a0 (C : List AV) (k : Nat) (n s i : Int) : AHeap := [ABlk.cells C 19 Md.far none, cells (putCells [AV.bool false, int u8 0, int u8 0, int u8 0, int u8 0, int u8 0, int u8 0, int u8 0, int u8 0, int u8 0, int u8 0, int u8 0, int u8 0, int u8 0, int u8 0, int u8 0, int u8 0, int u16 0, int i64 0] 0 (List.take 19 (List.drop (0 + i.toNat * 19) C))) 19 Md.own none]
theorem nfSh1a (C : List AV) (k : Nat) (n s i : Int) :
 qround Try.prog tSh 100 4 [(33, .bool true)] noT SH1 mSh1 (vSh1 k n s i) [.cells C 19 .far none] =
 (if decide (i < (k : Int)) = true then
 (if 0 ≤ i ∧ i < (k : Int) then
 (if 0 + i.toNat * 19 + 19 ≤ C.length then
 (if (List.take 19 (List.drop (0 + i.toNat * 19) C)).length = 19 then
 (if 0 + (List.take 19 (List.drop (0 + i.toNat * 19) C)).length ≤ 19 ∧ (List.take 19 (List.drop (0 + i.toNat * 19) C)).all AV.isCell = true then
 (if isIntV i64 (putCells [AV.bool false, int u8 0, int u8 0, int u8 0, int u8 0, int u8 0, int u8 0, int u8 0, int u8 0, int u8 0, int u8 0, int u8 0, int u8 0, int u8 0, int u8 0, int u8 0, int u8 0, int u16 0, int i64 0] 0 (List.take 19 (List.drop (0 + i.toNat * 19) C)))[18]? = true then
 some ((AEx.norm, [AV.sl (some (0, 0)) k 0 false, int i64 n, AV.sl none 0 0 true, int i64 (i64.wrap (s + intV (putCells [AV.bool false, int u8 0, int u8 0, int u8 0, int u8 0, int u8 0, int u8 0, int u8 0, int u8 0, int u8 0, int u8 0, int u8 0, int u8 0, int u8 0, int u8 0, int u8 0, int u8 0, int u16 0, int i64 0] 0 (List.take 19 (List.drop (0 + i.toNat * 19) C)))[18]?)), int i64 n, AV.sl (some (0, 0)) k 0 false, int i64 (k : Int), int i64 (i64.wrap (i + 1))], (hSh1a0 C k n s i)))
 else none) else none) else none) else none) else none) else none) := by
  kernel_rfl

noncomputable def hSh1s0 (C : List AV) (k : Nat) (n s i : Int) : AHeap := [ABlk.cells C 19 Md.far none]
theorem nfSh1s (C : List AV) (k : Nat) (n s i : Int) :
 qround Try.prog tSh 100 4 [(33, .bool false)] noT SH1 mSh1 (vSh1 k n s i) [.cells C 19 .far none] =
 (if decide (i < (k : Int)) = false then
 some ((AEx.exit 0, [AV.sl (some (0, 0)) k 0 false, int i64 n, AV.sl none 0 0 true, int i64 s, int i64 n, AV.sl (some (0, 0)) k 0 false, int i64 (k : Int), int i64 i], (hSh1s0 C k n s i)))
 else none) := by
  kernel_rfl

noncomputable def hSh2a0 (C R O : List AV) (k o : Nat) (n s l i : Int) : AHeap := [ABlk.cells C 19 Md.far none, cells (putCells R (0 + i.toNat * 1) [int i64 ((i64.wrap (n * intV (putCells [AV.bool false, int u8 0, int u8 0, int u8 0, int u8 0, int u8 0, int u8 0, int u8 0, int u8 0, int u8 0, int u8 0, int u8 0, int u8 0, int u8 0, int u8 0, int u8 0, int u8 0, int u16 0, int i64 0] 0 (List.take 19 (List.drop (0 + i.toNat * 19) C)))[18]?)).tmod s)]) 1 Md.own none, ABlk.cells O 1 Md.ro none, cells (putCells [AV.bool false, int u8 0, int u8 0, int u8 0, int u8 0, int u8 0, int u8 0, int u8 0, int u8 0, int u8 0, int u8 0, int u8 0, int u8 0, int u8 0, int u8 0, int u8 0, int u8 0, int u16 0, int i64 0] 0 (List.take 19 (List.drop (0 + i.toNat * 19) C))) 19 Md.own none, cells [int i64 (i64.wrap ((i64.wrap (n * intV (putCells [AV.bool false, int u8 0, int u8 0, int u8 0, int u8 0, int u8 0, int u8 0, int u8 0, int u8 0, int u8 0, int u8 0, int u8 0, int u8 0, int u8 0, int u8 0, int u8 0, int u8 0, int u16 0, int i64 0] 0 (List.take 19 (List.drop (0 + i.toNat * 19) C)))[18]?)).tdiv s))] 1 Md.own none, cells (List.take (o * 1) O ++ [int i64 (i64.wrap ((i64.wrap (n * intV (putCells [AV.bool false, int u8 0, int u8 0, int u8 0, int u8 0, int u8 0, int u8 0, int u8 0, int u8 0, int u8 0, int u8 0, int u8 0, int u8 0, int u8 0, int u8 0, int u8 0, int u8 0, int u16 0, int i64 0] 0 (List.take 19 (List.drop (0 + i.toNat * 19) C)))[18]?)).tdiv s))]) 1 Md.own (some 2)]
theorem nfSh2a (C R O : List AV) (k o : Nat) (n s l i : Int) :
 qround Try.prog tSh 100 4 [(47, .bool true)] noT SH2 mSh2 (vSh2 k o n s l i) (hSh C R O) =
 (if decide (i < (k : Int)) = true then
 (if 0 ≤ i ∧ i < (k : Int) then
 (if 0 + i.toNat * 19 + 19 ≤ C.length then
 (if (List.take 19 (List.drop (0 + i.toNat * 19) C)).length = 19 then
 (if 0 + (List.take 19 (List.drop (0 + i.toNat * 19) C)).length ≤ 19 ∧ (List.take 19 (List.drop (0 + i.toNat * 19) C)).all AV.isCell = true then
 (if isIntV i64 (putCells [AV.bool false, int u8 0, int u8 0, int u8 0, int u8 0, int u8 0, int u8 0, int u8 0, int u8 0, int u8 0, int u8 0, int u8 0, int u8 0, int u8 0, int u8 0, int u8 0, int u8 0, int u16 0, int i64 0] 0 (List.take 19 (List.drop (0 + i.toNat * 19) C)))[18]? = true then
 (if s = 0 then
 none
 else (if (2 * (o + 1) + 200) * 8 ≤ 281474976710656 ∧ some 1 = some 1 ∧ o + 1 ≤ 70368744177664 then
 (if 0 + o * 1 ≤ O.length then
 (if 0 = 0 ∧ 0 + o * 1 = O.length ∧ (0 < 1 ∨ 0 = 0) ∧ 1 = 1 ∧ [int i64 (i64.wrap ((i64.wrap (n * intV (putCells [AV.bool false, int u8 0, int u8 0, int u8 0, int u8 0, int u8 0, int u8 0, int u8 0, int u8 0, int u8 0, int u8 0, int u8 0, int u8 0, int u8 0, int u8 0, int u8 0, int u8 0, int u16 0, int i64 0] 0 (List.take 19 (List.drop (0 + i.toNat * 19) C)))[18]?)).tdiv s))].all AV.isCell = true then
 (if isIntV i64 (putCells [AV.bool false, int u8 0, int u8 0, int u8 0, int u8 0, int u8 0, int u8 0, int u8 0, int u8 0, int u8 0, int u8 0, int u8 0, int u8 0, int u8 0, int u8 0, int u8 0, int u8 0, int u16 0, int i64 0] 0 (List.take 19 (List.drop (0 + i.toNat * 19) C)))[18]? = true then
 (if s = 0 then
 none
 else (if 0 ≤ i ∧ i < (k : Int) then
 (if 0 + i.toNat * 1 + [int i64 ((i64.wrap (n * intV (putCells [AV.bool false, int u8 0, int u8 0, int u8 0, int u8 0, int u8 0, int u8 0, int u8 0, int u8 0, int u8 0, int u8 0, int u8 0, int u8 0, int u8 0, int u8 0, int u8 0, int u8 0, int u16 0, int i64 0] 0 (List.take 19 (List.drop (0 + i.toNat * 19) C)))[18]?)).tmod s)].length ≤ R.length ∧ [int i64 ((i64.wrap (n * intV (putCells [AV.bool false, int u8 0, int u8 0, int u8 0, int u8 0, int u8 0, int u8 0, int u8 0, int u8 0, int u8 0, int u8 0, int u8 0, int u8 0, int u8 0, int u8 0, int u8 0, int u8 0, int u16 0, int i64 0] 0 (List.take 19 (List.drop (0 + i.toNat * 19) C)))[18]?)).tmod s)].all AV.isCell = true then
 (if 0 ≤ i ∧ i < (((o + 1) : Nat) : Int) then
 (if isIntV i64 (List.take (o * 1) O ++ [int i64 (i64.wrap ((i64.wrap (n * intV (putCells [AV.bool false, int u8 0, int u8 0, int u8 0, int u8 0, int u8 0, int u8 0, int u8 0, int u8 0, int u8 0, int u8 0, int u8 0, int u8 0, int u8 0, int u8 0, int u8 0, int u8 0, int u16 0, int i64 0] 0 (List.take 19 (List.drop (0 + i.toNat * 19) C)))[18]?)).tdiv s))])[0 + i.toNat * 1]? = true then
 some ((AEx.norm, [int i64 n, AV.sl (some (5, 0)) (o + 1) 0 false, int i64 s, int i64 (i64.wrap (l - intV (List.take (o * 1) O ++ [int i64 (i64.wrap ((i64.wrap (n * intV (putCells [AV.bool false, int u8 0, int u8 0, int u8 0, int u8 0, int u8 0, int u8 0, int u8 0, int u8 0, int u8 0, int u8 0, int u8 0, int u8 0, int u8 0, int u8 0, int u8 0, int u8 0, int u16 0, int i64 0] 0 (List.take 19 (List.drop (0 + i.toNat * 19) C)))[18]?)).tdiv s))])[0 + i.toNat * 1]?)), AV.sl (some (1, 0)) k 0 false, AV.sl (some (0, 0)) k 0 false, int i64 (k : Int), int i64 (i64.wrap (i + 1))], (hSh2a0 C R O k o n s l i)))
 else none) else none) else none) else none))
 else none) else none) else none) else none))
 else none) else none) else none) else none) else none) else none) := by
  kernel_rfl

noncomputable def hSh2s0 (C R O : List AV) (k o : Nat) (n s l i : Int) : AHeap := [ABlk.cells C 19 Md.far none, ABlk.cells R 1 Md.own none, ABlk.cells O 1 Md.own none]
theorem nfSh2s (C R O : List AV) (k o : Nat) (n s l i : Int) :
 qround Try.prog tSh 100 4 [(47, .bool false)] noT SH2 mSh2 (vSh2 k o n s l i) (hSh C R O) =
 (if decide (i < (k : Int)) = false then
 some ((AEx.exit 2, [int i64 n, AV.sl (some (2, 0)) o 0 false, int i64 s, int i64 l, AV.sl (some (1, 0)) k 0 false, AV.sl (some (0, 0)) k 0 false, int i64 (k : Int), int i64 i], (hSh2s0 C R O k o n s l i)))
 else none) := by
  kernel_rfl

noncomputable def hSh3a0 (C R O : List AV) (k o : Nat) (l : Int) : AHeap := [ABlk.cells C 19 Md.far none, ABlk.cells R 1 Md.own none, ABlk.cells O 1 Md.own none]
noncomputable def hSh3a1 (C R O : List AV) (k o : Nat) (l : Int) : AHeap := [ABlk.cells C 19 Md.far none, cells (putCells R (0 + (opq (idxI (ilOf (rowOf (hSh3a0 C R O k o l) (AV.sl (some (1, 0)) k 0 false))) (opq (maxI (ilOf (rowOf (hSh3a0 C R O k o l) (AV.sl (some (1, 0)) k 0 false))))))).toNat * 1) [int i64 (-1)]) 1 Md.own none, cells (putCells O (0 + (opq (idxI (ilOf (rowOf (hSh3a0 C R O k o l) (AV.sl (some (1, 0)) k 0 false))) (opq (maxI (ilOf (rowOf (hSh3a0 C R O k o l) (AV.sl (some (1, 0)) k 0 false))))))).toNat * 1) [int i64 (i64.wrap (intV O[0 + (opq (idxI (ilOf (rowOf (hSh3a0 C R O k o l) (AV.sl (some (1, 0)) k 0 false))) (opq (maxI (ilOf (rowOf (hSh3a0 C R O k o l) (AV.sl (some (1, 0)) k 0 false))))))).toNat * 1]? + 1))]) 1 Md.own none]
theorem nfSh3a (C R O : List AV) (k o : Nat) (l : Int) :
 qround Try.prog tSh 100 4 [(77, .bool true)] noT SH3 mSh3 (vSh3 k o l) (hSh C R O) =
 (if decide (l > 0) = true then
 (if cdec (rowI (hSh3a0 C R O k o l) (AV.sl (some (1, 0)) k 0 false) (ilOf (rowOf (hSh3a0 C R O k o l) (AV.sl (some (1, 0)) k 0 false))) ∧ 0 < nOf (AV.sl (some (1, 0)) k 0 false) ∧ nOf (AV.sl (some (1, 0)) k 0 false) ≤ 100000) = true then
 (if cdec (rowI (hSh3a0 C R O k o l) (AV.sl (some (1, 0)) k 0 false) (ilOf (rowOf (hSh3a0 C R O k o l) (AV.sl (some (1, 0)) k 0 false))) ∧ nOf (AV.sl (some (1, 0)) k 0 false) ≤ 100000) = true then
 (if 0 ≤ opq (idxI (ilOf (rowOf (hSh3a0 C R O k o l) (AV.sl (some (1, 0)) k 0 false))) (opq (maxI (ilOf (rowOf (hSh3a0 C R O k o l) (AV.sl (some (1, 0)) k 0 false)))))) ∧ opq (idxI (ilOf (rowOf (hSh3a0 C R O k o l) (AV.sl (some (1, 0)) k 0 false))) (opq (maxI (ilOf (rowOf (hSh3a0 C R O k o l) (AV.sl (some (1, 0)) k 0 false)))))) < (o : Int) then
 (if isIntV i64 O[0 + (opq (idxI (ilOf (rowOf (hSh3a0 C R O k o l) (AV.sl (some (1, 0)) k 0 false))) (opq (maxI (ilOf (rowOf (hSh3a0 C R O k o l) (AV.sl (some (1, 0)) k 0 false))))))).toNat * 1]? = true then
 (if 0 ≤ opq (idxI (ilOf (rowOf (hSh3a0 C R O k o l) (AV.sl (some (1, 0)) k 0 false))) (opq (maxI (ilOf (rowOf (hSh3a0 C R O k o l) (AV.sl (some (1, 0)) k 0 false)))))) ∧ opq (idxI (ilOf (rowOf (hSh3a0 C R O k o l) (AV.sl (some (1, 0)) k 0 false))) (opq (maxI (ilOf (rowOf (hSh3a0 C R O k o l) (AV.sl (some (1, 0)) k 0 false)))))) < (o : Int) then
 (if 0 + (opq (idxI (ilOf (rowOf (hSh3a0 C R O k o l) (AV.sl (some (1, 0)) k 0 false))) (opq (maxI (ilOf (rowOf (hSh3a0 C R O k o l) (AV.sl (some (1, 0)) k 0 false))))))).toNat * 1 + [int i64 (i64.wrap (intV O[0 + (opq (idxI (ilOf (rowOf (hSh3a0 C R O k o l) (AV.sl (some (1, 0)) k 0 false))) (opq (maxI (ilOf (rowOf (hSh3a0 C R O k o l) (AV.sl (some (1, 0)) k 0 false))))))).toNat * 1]? + 1))].length ≤ O.length ∧ [int i64 (i64.wrap (intV O[0 + (opq (idxI (ilOf (rowOf (hSh3a0 C R O k o l) (AV.sl (some (1, 0)) k 0 false))) (opq (maxI (ilOf (rowOf (hSh3a0 C R O k o l) (AV.sl (some (1, 0)) k 0 false))))))).toNat * 1]? + 1))].all AV.isCell = true then
 (if 0 ≤ opq (idxI (ilOf (rowOf (hSh3a0 C R O k o l) (AV.sl (some (1, 0)) k 0 false))) (opq (maxI (ilOf (rowOf (hSh3a0 C R O k o l) (AV.sl (some (1, 0)) k 0 false)))))) ∧ opq (idxI (ilOf (rowOf (hSh3a0 C R O k o l) (AV.sl (some (1, 0)) k 0 false))) (opq (maxI (ilOf (rowOf (hSh3a0 C R O k o l) (AV.sl (some (1, 0)) k 0 false)))))) < (k : Int) then
 (if 0 + (opq (idxI (ilOf (rowOf (hSh3a0 C R O k o l) (AV.sl (some (1, 0)) k 0 false))) (opq (maxI (ilOf (rowOf (hSh3a0 C R O k o l) (AV.sl (some (1, 0)) k 0 false))))))).toNat * 1 + [int i64 (-1)].length ≤ R.length ∧ [int i64 (-1)].all AV.isCell = true then
 some ((AEx.norm, [AV.sl (some (2, 0)) o 0 false, int i64 (i64.wrap (l - 1)), AV.sl (some (1, 0)) k 0 false], (hSh3a1 C R O k o l)))
 else none) else none) else none) else none) else none) else none) else none) else none) else none) := by
  kernel_rfl

noncomputable def hSh3s0 (C R O : List AV) (k o : Nat) (l : Int) : AHeap := [ABlk.cells C 19 Md.far none, ABlk.cells R 1 Md.own none, ABlk.cells O 1 Md.own none]
theorem nfSh3s (C R O : List AV) (k o : Nat) (l : Int) :
 qround Try.prog tSh 100 4 [(77, .bool false)] noT SH3 mSh3 (vSh3 k o l) (hSh C R O) =
 (if decide (l > 0) = false then
 some ((AEx.exit 4, [AV.sl (some (2, 0)) o 0 false, int i64 l, AV.sl (some (1, 0)) k 0 false], (hSh3s0 C R O k o l)))
 else none) := by
  kernel_rfl

noncomputable def hShl0 (C : List AV) (k : Nat) (n : Int) : AHeap := [ABlk.cells C 19 Md.far none]
noncomputable def hShl1 (C : List AV) (k : Nat) (n : Int) : AHeap := []
theorem nfShl {R : Type} (C : List AV) (k : Nat) (n : Int) (K : AV → AHeap → Option R) :
 qrun Try.prog tSh 100 4 [(28, .bool true)] [] 15 [.sl (some (0, 0)) k 0 false, .int .i64 n] [.cells C 19 .far none] K =
 (if decide (n < 0) = true then
 K (AV.sl none 0 0 true) ((hShl0 C k n))
 else (if decide (n > 64) = true then
 K (AV.sl none 0 0 true) ((hShl0 C k n))
 else (if cdec (CkR [AV.sl (some (0, 0)) k 0 false] (hShl0 C k n) (int i64 (opq (chkP (plOf (rowOf (hShl0 C k n) (AV.sl (some (0, 0)) k 0 false)))))) (hShl1 C k n)) = true then
 (if (opq (chkP (plOf (rowOf (hShl0 C k n) (AV.sl (some (0, 0)) k 0 false)))) != 0) = true then
 K (AV.sl none 0 0 true) ((hShl0 C k n))
 else (if ((k : Int) == 0) = true then
 K (AV.sl none 0 0 true) ((hShl0 C k n))
 else none))
 else none))) := by
  kernel_rfl

noncomputable def hShm0 (T : Type) (q1 q2 q3 : Prop) (C R O R2 O2 : List AV) (k o : Nat) (n s l l2 : Int) : AHeap := [ABlk.cells C 19 Md.far none]
noncomputable def hShm1 (T : Type) (q1 q2 q3 : Prop) (C R O R2 O2 : List AV) (k o : Nat) (n s l l2 : Int) : AHeap := []
noncomputable def hShm2 (T : Type) (q1 q2 q3 : Prop) (C R O R2 O2 : List AV) (k o : Nat) (n s l l2 : Int) : AHeap := [ABlk.cells C 19 Md.far none, cells (zrep ((k : Int)).toNat [int i64 0]) 1 Md.own none]
noncomputable def hShm3 (T : Type) (q1 q2 q3 : Prop) (C R O R2 O2 : List AV) (k o : Nat) (n s l l2 : Int) : AHeap := [ABlk.cells C 19 Md.far none, cells (List.replicate k (int i64 0)) 1 Md.own none]
noncomputable def hShm4 (T : Type) (q1 q2 q3 : Prop) (C R O R2 O2 : List AV) (k o : Nat) (n s l l2 : Int) : AHeap := [ABlk.cells C 19 Md.far none, ABlk.cells R 1 Md.own none, ABlk.cells O 1 Md.own none]
noncomputable def hShm5 (T : Type) (q1 q2 q3 : Prop) (C R O R2 O2 : List AV) (k o : Nat) (n s l l2 : Int) : AHeap := [ABlk.cells C 19 Md.far none, ABlk.cells R2 1 Md.own none, ABlk.cells O2 1 Md.own none]
theorem nfShm (T : Type) (q1 q2 q3 : Prop) (C R O R2 O2 : List AV) (k o : Nat) (n s l l2 : Int) (K : AV → AHeap → Option T) :
 qrun Try.prog tSh 100 4 [(28, .bool false)] [(5, fixC q1 mSh1 (vSh1 k n 0 0) [.cells C 19 .far none] (.exit 0) (vSh1 k n s k) [.cells C 19 .far none]), (11, fixC q2 mSh2 (vSh2z k n s n 0) [.cells C 19 .far none, .cells (List.replicate k (.int .i64 0)) 1 .own none] (.exit 2) (vSh2 k o n s l k) (hSh C R O)), (17, fixC q3 mSh3 (vSh3 k o l) (hSh C R O) (.exit 4) (vSh3 k o l2) (hSh C R2 O2))] 15 [.sl (some (0, 0)) k 0 false, .int .i64 n] [.cells C 19 .far none] K =
 (if decide (n < 0) = true then
 none
 else (if decide (n > 64) = true then
 none
 else (if cdec (CkR [AV.sl (some (0, 0)) k 0 false] (hShm0 T q1 q2 q3 C R O R2 O2 k o n s l l2) (int i64 (opq (chkP (plOf (rowOf (hShm0 T q1 q2 q3 C R O R2 O2 k o n s l l2) (AV.sl (some (0, 0)) k 0 false)))))) (hShm1 T q1 q2 q3 C R O R2 O2 k o n s l l2)) = true then
 (if (opq (chkP (plOf (rowOf (hShm0 T q1 q2 q3 C R O R2 O2 k o n s l l2) (AV.sl (some (0, 0)) k 0 false)))) != 0) = true then
 none
 else (if ((k : Int) == 0) = false then
 (if cdec (q1 ∧ [AV.sl (some (0, 0)) k 0 false, int i64 n, AV.sl none 0 0 true, int i64 0, int i64 n, AV.sl (some (0, 0)) k 0 false, int i64 (k : Int), int i64 0] = [AV.sl (some (0, 0)) k 0 false, int i64 n, AV.sl none 0 0 true, int i64 0, int i64 n, AV.sl (some (0, 0)) k 0 false, int i64 (k : Int), int i64 0] ∧ (hShm0 T q1 q2 q3 C R O R2 O2 k o n s l l2) = (hShm0 T q1 q2 q3 C R O R2 O2 k o n s l l2)) = true then
 (if 1 = 1 ∧ 0 < 1 ∧ 0 ≤ (k : Int) ∧ (k : Int) ≤ (k : Int) ∧ (k : Int) ≤ 70368744177664 ∧ 8 * (k : Int) ≤ 281474976710656 then
 (if cdec
 (q2 ∧
 [int i64 n, AV.sl none 0 0 true, int i64 s, int i64 n,
 AV.sl (some (1, 0)) ((k : Int)).toNat
 (match true with
 | true => 0
 | false => ((k : Int)).toNat)
 false,
 AV.sl (some (0, 0)) k 0 false, int i64 (k : Int), int i64 0] =
 [int i64 n, AV.sl none 0 0 true, int i64 s, int i64 n, AV.sl (some (1, 0)) k 0 false, AV.sl (some (0, 0)) k 0 false, int i64 (k : Int), int i64 0] ∧
 (hShm2 T q1 q2 q3 C R O R2 O2 k o n s l l2) = (hShm3 T q1 q2 q3 C R O R2 O2 k o n s l l2)) =
 true then
 (if cdec (q3 ∧ [AV.sl (some (2, 0)) o 0 false, int i64 l, AV.sl (some (1, 0)) k 0 false] = [AV.sl (some (2, 0)) o 0 false, int i64 l, AV.sl (some (1, 0)) k 0 false] ∧ (hShm4 T q1 q2 q3 C R O R2 O2 k o n s l l2) = (hShm4 T q1 q2 q3 C R O R2 O2 k o n s l l2)) = true then
 K (AV.sl (some (2, 0)) o 0 false) ((hShm5 T q1 q2 q3 C R O R2 O2 k o n s l l2))
 else none) else none) else none) else none) else none))
 else none))) := by
  kernel_rfl


end Go.Proofs.Ytlppbeoiphglcaa.L
