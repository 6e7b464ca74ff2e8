/- slots.Fill: its rows. -/
import Derived.Test.YtlppbeoiphglcaaImK
set_option autoImplicit false
set_option maxRecDepth 100000
set_option linter.unusedVariables false
set_option linter.unusedSimpArgs false
namespace Go.Proofs.Ytlppbeoiphglcaa.L
open Go Go.Abs
open Go.IntKind
open Go.Abs.AV (int)
open Go.Abs.ABlk (cells)

noncomputable abbrev FL1 := loopIn (bodyOf Try.prog 10) 0
noncomputable abbrev FL2 := loopIn (bodyOf Try.prog 10) 1
noncomputable abbrev FL3 := loopIn FL2 0
def mFl1 : List Bool := List.replicate 1 false ++ List.replicate 1 true ++ List.replicate 1 false ++ List.replicate 1 true ++ List.replicate 4 false ++ List.replicate 3 true ++ List.replicate 36 false ++ List.replicate 2 true ++ List.replicate 64 false
def mFl2 : List Bool := List.replicate 1 false ++ List.replicate 1 true ++ List.replicate 6 false ++ List.replicate 2 true ++ List.replicate 3 false ++ List.replicate 1 true ++ List.replicate 70 false ++ List.replicate 3 true ++ List.replicate 26 false
def mFl3 : List Bool := List.replicate 1 false ++ List.replicate 1 true ++ List.replicate 6 false ++ List.replicate 2 true ++ List.replicate 3 false ++ List.replicate 1 true ++ List.replicate 1 false ++ List.replicate 1 true ++ List.replicate 68 false ++ List.replicate 3 true ++ List.replicate 26 false
noncomputable def tFl (k : Nat) (L : List Int) : Tbl := [(23, entF (eRelI RIm)), (12, entF eCk), (15, entF (eRel ShR [(3, .sl (some (3, 0)) k 0 false, [.cells (intL L) 1 .own none])]))]
def nzI (l : List Int) (a : Int) : Int := a + ((l.drop a.toNat).findIdx fun x => !decide (x = 0) : Nat)
noncomputable def tellFl (vs : List AV) (h : AHeap) : List AV × AHeap := match vs with
  | [m, l, o, .int .i64 a, i, q, n, j] => ([m, l, o, .int .i64 (opq (nzI (ilOf (rowOf h l)) a)), i, q, n, j], h)
  | _ => (vs, h)
noncomputable abbrev tFlL : Tbl := tFl 0 []
noncomputable abbrev bFl3 := roundG Try.prog (deepT Try.prog tFlL 100 4) (lsT noT) FL3 mFl3
noncomputable def lsFl : LoopTT := mixT [(23, fixS bFl3 mFl3 (.exit 4) tellFl)] noT
def vFl1 (k l n q : Nat) (i : Int) : List AV := [.sl (some (1, 0)) k 0 false, .ptr (some (2, 0)), .sl (some (3, 0)) l 0 false, .sl (some (4, 0)) n 0 false, .sl (some (5, 0)) q 0 false, .int .i64 n, .int .i64 i]
def vFl1z (k l n : Nat) (i : Int) : List AV := [.sl (some (1, 0)) k 0 false, .ptr (some (2, 0)), .sl (some (3, 0)) l 0 false, .sl (some (4, 0)) n 0 false, .sl none 0 0 true, .int .i64 n, .int .i64 i]
def vFl2 (k l n q : Nat) (a i : Int) : List AV := [.sl (some (1, 0)) k 0 false, .sl (some (3, 0)) l 0 false, .sl (some (4, 0)) n 0 false, .int .i64 a, .sl (some (5, 0)) q 0 false, .int .i64 q, .int .i64 i]
def vFl3 (k l n q : Nat) (a x i : Int) : List AV := [.sl (some (1, 0)) k 0 false, .sl (some (3, 0)) l 0 false, .sl (some (4, 0)) n 0 false, .int .i64 a, .int .i64 x, .sl (some (5, 0)) q 0 false, .int .i64 q, .int .i64 i]
def hFl (O C : List AV) (o : Nat) (L X Q : List AV) : AHeap := [.cells O 18 .far none, .cells C 19 .far none, .cells [.sl (some (0, 0)) o 0 false] 1 .own none, .cells L 1 .own none, .cells X 18 .own none, .cells Q 1 .own none]

noncomputable def hFl1o0 (O C : List AV) (o : Nat) (L X Q : List AV) (k l n q : Nat) (i : Int) : AHeap := [ABlk.cells O 18 Md.far none, ABlk.cells C 19 Md.far none, cells [AV.sl (some (0, 0)) o 0 false] 1 Md.own none, ABlk.cells L 1 Md.own none, ABlk.cells X 18 Md.own none, ABlk.cells Q 1 Md.own none, cells [int i64 i] 1 Md.own none]
noncomputable def hFl1o1 (O C : List AV) (o : Nat) (L X Q : List AV) (k l n q : Nat) (i : Int) : AHeap := []
noncomputable def hFl1o2 (O C : List AV) (o : Nat) (L X Q : List AV) (k l n q : Nat) (i : Int) : AHeap := [ABlk.cells O 18 Md.far none, ABlk.cells C 19 Md.far none, cells [AV.sl (some (0, 0)) o 0 false] 1 Md.own none, ABlk.cells L 1 Md.own none, ABlk.cells X 18 Md.own none, ABlk.cells Q 1 Md.ro none, cells [int i64 i] 1 Md.own none, cells [int i64 (intV (some (int i64 i)))] 1 Md.own none, cells (List.take (q * 1) Q ++ [int i64 (intV (some (int i64 i)))]) 1 Md.own (some 5)]
theorem nfFl1o (O C : List AV) (o : Nat) (L X Q : List AV) (k l n q : Nat) (i : Int) :
 qround Try.prog tFlL 100 4 [(49, .bool true), (53, .bool true), (65, .bool true)] noT FL1 mFl1 (vFl1 k l n q i) (hFl O C o L X Q) =
 (if decide (i < (n : Int)) = true then
 (if decide ((o : Int) > 0) = true then
 (if cdec (RIm [AV.sl (some (1, 0)) k 0 false, AV.fn (Fn.func 24) [AV.ptr (some (2, 0)), AV.ptr (some (6, 0))]] (hFl1o0 O C o L X Q k l n q i) (int i64 (intC RIm [AV.sl (some (1, 0)) k 0 false, AV.fn (Fn.func 24) [AV.ptr (some (2, 0)), AV.ptr (some (6, 0))]] (hFl1o0 O C o L X Q k l n q i))) (hFl1o1 O C o L X Q k l n q i)) = true then
 (if decide (intC RIm [AV.sl (some (1, 0)) k 0 false, AV.fn (Fn.func 24) [AV.ptr (some (2, 0)), AV.ptr (some (6, 0))]] (hFl1o0 O C o L X Q k l n q i) < 0) = true then
 (if (2 * (q + 1) + 200) * 8 ≤ 281474976710656 ∧ some 1 = some 1 ∧ q + 1 ≤ 70368744177664 then
 (if 0 + q * 1 ≤ Q.length then
 (if 0 = 0 ∧ 0 + q * 1 = Q.length ∧ (0 < 1 ∨ 0 = 0) ∧ 1 = 1 ∧ [int i64 (intV (some (int i64 i)))].all AV.isCell = true then
 some ((AEx.norm, [AV.sl (some (1, 0)) k 0 false, AV.ptr (some (2, 0)), AV.sl (some (3, 0)) l 0 false, AV.sl (some (4, 0)) n 0 false, AV.sl (some (8, 0)) (q + 1) 0 false, int i64 (n : Int), int i64 (i64.wrap (i + 1))], (hFl1o2 O C o L X Q k l n q i)))
 else none) else none) else none)
 else (if 0 ≤ intC RIm [AV.sl (some (1, 0)) k 0 false, AV.fn (Fn.func 24) [AV.ptr (some (2, 0)), AV.ptr (some (6, 0))]] (hFl1o0 O C o L X Q k l n q i) ∧ intC RIm [AV.sl (some (1, 0)) k 0 false, AV.fn (Fn.func 24) [AV.ptr (some (2, 0)), AV.ptr (some (6, 0))]] (hFl1o0 O C o L X Q k l n q i) < (l : Int) then
 (if isIntV i64 L[0 + (intC RIm [AV.sl (some (1, 0)) k 0 false, AV.fn (Fn.func 24) [AV.ptr (some (2, 0)), AV.ptr (some (6, 0))]] (hFl1o0 O C o L X Q k l n q i)).toNat * 1]? = true then
 (if (intV L[0 + (intC RIm [AV.sl (some (1, 0)) k 0 false, AV.fn (Fn.func 24) [AV.ptr (some (2, 0)), AV.ptr (some (6, 0))]] (hFl1o0 O C o L X Q k l n q i)).toNat * 1]? == 0) = true then
 (if (2 * (q + 1) + 200) * 8 ≤ 281474976710656 ∧ some 1 = some 1 ∧ q + 1 ≤ 70368744177664 then
 (if 0 + q * 1 ≤ Q.length then
 (if 0 = 0 ∧ 0 + q * 1 = Q.length ∧ (0 < 1 ∨ 0 = 0) ∧ 1 = 1 ∧ [int i64 (intV (some (int i64 i)))].all AV.isCell = true then
 some ((AEx.norm, [AV.sl (some (1, 0)) k 0 false, AV.ptr (some (2, 0)), AV.sl (some (3, 0)) l 0 false, AV.sl (some (4, 0)) n 0 false, AV.sl (some (8, 0)) (q + 1) 0 false, int i64 (n : Int), int i64 (i64.wrap (i + 1))], (hFl1o2 O C o L X Q k l n q i)))
 else none) else none) else none) else none) else none) else none))
 else none) else none) else none) := by
  kernel_rfl

noncomputable def hFl1k0 (O C : List AV) (o : Nat) (L X Q : List AV) (k l n q : Nat) (i : Int) : AHeap := [ABlk.cells O 18 Md.far none, ABlk.cells C 19 Md.far none, cells [AV.sl (some (0, 0)) o 0 false] 1 Md.own none, ABlk.cells L 1 Md.own none, ABlk.cells X 18 Md.own none, ABlk.cells Q 1 Md.own none, cells [int i64 i] 1 Md.own none]
noncomputable def hFl1k1 (O C : List AV) (o : Nat) (L X Q : List AV) (k l n q : Nat) (i : Int) : AHeap := []
noncomputable def hFl1k2 (O C : List AV) (o : Nat) (L X Q : List AV) (k l n q : Nat) (i : Int) : AHeap := [ABlk.cells O 18 Md.far none, ABlk.cells C 19 Md.far none, cells [AV.sl (some (0, 0)) o 0 false] 1 Md.own none, cells (putCells L (0 + (intC RIm [AV.sl (some (1, 0)) k 0 false, AV.fn (Fn.func 24) [AV.ptr (some (2, 0)), AV.ptr (some (6, 0))]] (hFl1k0 O C o L X Q k l n q i)).toNat * 1) [int i64 (i64.wrap (intV L[0 + (intC RIm [AV.sl (some (1, 0)) k 0 false, AV.fn (Fn.func 24) [AV.ptr (some (2, 0)), AV.ptr (some (6, 0))]] (hFl1k0 O C o L X Q k l n q i)).toNat * 1]? - 1))]) 1 Md.own none, cells (putCells X (0 + (intV (some (int i64 i))).toNat * 18) (List.take 18 (List.drop (0 + (intV (some (int i64 i))).toNat * 18) O))) 18 Md.own none, ABlk.cells Q 1 Md.own none, cells [int i64 i] 1 Md.own none]
theorem nfFl1k (O C : List AV) (o : Nat) (L X Q : List AV) (k l n q : Nat) (i : Int) :
 qround Try.prog tFlL 100 4 [(49, .bool true), (53, .bool true), (65, .bool false)] noT FL1 mFl1 (vFl1 k l n q i) (hFl O C o L X Q) =
 (if decide (i < (n : Int)) = true then
 (if decide ((o : Int) > 0) = true then
 (if cdec (RIm [AV.sl (some (1, 0)) k 0 false, AV.fn (Fn.func 24) [AV.ptr (some (2, 0)), AV.ptr (some (6, 0))]] (hFl1k0 O C o L X Q k l n q i) (int i64 (intC RIm [AV.sl (some (1, 0)) k 0 false, AV.fn (Fn.func 24) [AV.ptr (some (2, 0)), AV.ptr (some (6, 0))]] (hFl1k0 O C o L X Q k l n q i))) (hFl1k1 O C o L X Q k l n q i)) = true then
 (if decide (intC RIm [AV.sl (some (1, 0)) k 0 false, AV.fn (Fn.func 24) [AV.ptr (some (2, 0)), AV.ptr (some (6, 0))]] (hFl1k0 O C o L X Q k l n q i) < 0) = true then
 none
 else (if 0 ≤ intC RIm [AV.sl (some (1, 0)) k 0 false, AV.fn (Fn.func 24) [AV.ptr (some (2, 0)), AV.ptr (some (6, 0))]] (hFl1k0 O C o L X Q k l n q i) ∧ intC RIm [AV.sl (some (1, 0)) k 0 false, AV.fn (Fn.func 24) [AV.ptr (some (2, 0)), AV.ptr (some (6, 0))]] (hFl1k0 O C o L X Q k l n q i) < (l : Int) then
 (if isIntV i64 L[0 + (intC RIm [AV.sl (some (1, 0)) k 0 false, AV.fn (Fn.func 24) [AV.ptr (some (2, 0)), AV.ptr (some (6, 0))]] (hFl1k0 O C o L X Q k l n q i)).toNat * 1]? = true then
 (if (intV L[0 + (intC RIm [AV.sl (some (1, 0)) k 0 false, AV.fn (Fn.func 24) [AV.ptr (some (2, 0)), AV.ptr (some (6, 0))]] (hFl1k0 O C o L X Q k l n q i)).toNat * 1]? == 0) = false then
 (if 0 ≤ intV (some (int i64 i)) ∧ intV (some (int i64 i)) < (o : Int) then
 (if 0 + (intV (some (int i64 i))).toNat * 18 + 18 ≤ O.length then
 (if 0 ≤ intV (some (int i64 i)) ∧ intV (some (int i64 i)) < (n : Int) then
 (if (List.take 18 (List.drop (0 + (intV (some (int i64 i))).toNat * 18) O)).length = 18 then
 (if 0 + (intV (some (int i64 i))).toNat * 18 + (List.take 18 (List.drop (0 + (intV (some (int i64 i))).toNat * 18) O)).length ≤ X.length ∧ (List.take 18 (List.drop (0 + (intV (some (int i64 i))).toNat * 18) O)).all AV.isCell = true then
 (if 0 ≤ intC RIm [AV.sl (some (1, 0)) k 0 false, AV.fn (Fn.func 24) [AV.ptr (some (2, 0)), AV.ptr (some (6, 0))]] (hFl1k0 O C o L X Q k l n q i) ∧ intC RIm [AV.sl (some (1, 0)) k 0 false, AV.fn (Fn.func 24) [AV.ptr (some (2, 0)), AV.ptr (some (6, 0))]] (hFl1k0 O C o L X Q k l n q i) < (l : Int) then
 (if isIntV i64 L[0 + (intC RIm [AV.sl (some (1, 0)) k 0 false, AV.fn (Fn.func 24) [AV.ptr (some (2, 0)), AV.ptr (some (6, 0))]] (hFl1k0 O C o L X Q k l n q i)).toNat * 1]? = true then
 (if 0 ≤ intC RIm [AV.sl (some (1, 0)) k 0 false, AV.fn (Fn.func 24) [AV.ptr (some (2, 0)), AV.ptr (some (6, 0))]] (hFl1k0 O C o L X Q k l n q i) ∧ intC RIm [AV.sl (some (1, 0)) k 0 false, AV.fn (Fn.func 24) [AV.ptr (some (2, 0)), AV.ptr (some (6, 0))]] (hFl1k0 O C o L X Q k l n q i) < (l : Int) then
 (if 0 + (intC RIm [AV.sl (some (1, 0)) k 0 false, AV.fn (Fn.func 24) [AV.ptr (some (2, 0)), AV.ptr (some (6, 0))]] (hFl1k0 O C o L X Q k l n q i)).toNat * 1 + [int i64 (i64.wrap (intV L[0 + (intC RIm [AV.sl (some (1, 0)) k 0 false, AV.fn (Fn.func 24) [AV.ptr (some (2, 0)), AV.ptr (some (6, 0))]] (hFl1k0 O C o L X Q k l n q i)).toNat * 1]? - 1))].length ≤ L.length ∧ [int i64 (i64.wrap (intV L[0 + (intC RIm [AV.sl (some (1, 0)) k 0 false, AV.fn (Fn.func 24) [AV.ptr (some (2, 0)), AV.ptr (some (6, 0))]] (hFl1k0 O C o L X Q k l n q i)).toNat * 1]? - 1))].all AV.isCell = true then
 some ((AEx.norm, [AV.sl (some (1, 0)) k 0 false, AV.ptr (some (2, 0)), AV.sl (some (3, 0)) l 0 false, AV.sl (some (4, 0)) n 0 false, AV.sl (some (5, 0)) q 0 false, int i64 (n : Int), int i64 (i64.wrap (i + 1))], (hFl1k2 O C o L X Q k l n q i)))
 else none) else none) else none) else none) else none) else none) else none) else none) else none) else none) else none) else none))
 else none) else none) else none) := by
  kernel_rfl

noncomputable def hFl1z0 (O C : List AV) (o : Nat) (L X Q : List AV) (k l n q : Nat) (i : Int) : AHeap := [ABlk.cells O 18 Md.far none, ABlk.cells C 19 Md.far none, cells [AV.sl (some (0, 0)) o 0 false] 1 Md.own none, ABlk.cells L 1 Md.own none, ABlk.cells X 18 Md.own none, ABlk.cells Q 1 Md.ro none, cells [int i64 i] 1 Md.own none, cells [int i64 (intV (some (int i64 i)))] 1 Md.own none, cells (List.take (q * 1) Q ++ [int i64 (intV (some (int i64 i)))]) 1 Md.own (some 5)]
theorem nfFl1z (O C : List AV) (o : Nat) (L X Q : List AV) (k l n q : Nat) (i : Int) :
 qround Try.prog tFlL 100 4 [(49, .bool true), (53, .bool false), (65, .bool true)] noT FL1 mFl1 (vFl1 k l n q i) (hFl O C o L X Q) =
 (if decide (i < (n : Int)) = true then
 (if decide ((o : Int) > 0) = false then
 (if (2 * (q + 1) + 200) * 8 ≤ 281474976710656 ∧ some 1 = some 1 ∧ q + 1 ≤ 70368744177664 then
 (if 0 + q * 1 ≤ Q.length then
 (if 0 = 0 ∧ 0 + q * 1 = Q.length ∧ (0 < 1 ∨ 0 = 0) ∧ 1 = 1 ∧ [int i64 (intV (some (int i64 i)))].all AV.isCell = true then
 some ((AEx.norm, [AV.sl (some (1, 0)) k 0 false, AV.ptr (some (2, 0)), AV.sl (some (3, 0)) l 0 false, AV.sl (some (4, 0)) n 0 false, AV.sl (some (8, 0)) (q + 1) 0 false, int i64 (n : Int), int i64 (i64.wrap (i + 1))], (hFl1z0 O C o L X Q k l n q i)))
 else none) else none) else none) else none) else none) := by
  kernel_rfl

noncomputable def hFl1s0 (O C : List AV) (o : Nat) (L X Q : List AV) (k l n q : Nat) (i : Int) : AHeap := [ABlk.cells O 18 Md.far none, ABlk.cells C 19 Md.far none, cells [AV.sl (some (0, 0)) o 0 false] 1 Md.own none, ABlk.cells L 1 Md.own none, ABlk.cells X 18 Md.own none, ABlk.cells Q 1 Md.own none]
theorem nfFl1s (O C : List AV) (o : Nat) (L X Q : List AV) (k l n q : Nat) (i : Int) :
 qround Try.prog tFlL 100 4 [(49, .bool false)] noT FL1 mFl1 (vFl1 k l n q i) (hFl O C o L X Q) =
 (if decide (i < (n : Int)) = false then
 some ((AEx.exit 0, [AV.sl (some (1, 0)) k 0 false, AV.ptr (some (2, 0)), AV.sl (some (3, 0)) l 0 false, AV.sl (some (4, 0)) n 0 false, AV.sl (some (5, 0)) q 0 false, int i64 (n : Int), int i64 i], (hFl1s0 O C o L X Q k l n q i)))
 else none) := by
  kernel_rfl

noncomputable def hFl2a0 (O C : List AV) (o : Nat) (L X Q : List AV) (k l n q : Nat) (a i : Int) : AHeap := [ABlk.cells O 18 Md.far none, ABlk.cells C 19 Md.far none, cells [AV.sl (some (0, 0)) o 0 false] 1 Md.own none, ABlk.cells L 1 Md.own none, ABlk.cells X 18 Md.own none, ABlk.cells Q 1 Md.own none]
noncomputable def hFl2a1 (O C : List AV) (o : Nat) (L X Q : List AV) (k l n q : Nat) (a i : Int) : AHeap := [ABlk.cells O 18 Md.far none, ABlk.cells C 19 Md.far none, cells [AV.sl (some (0, 0)) o 0 false] 1 Md.own none, cells (putCells L (0 + (opq (nzI (ilOf (rowOf (hFl2a0 O C o L X Q k l n q a i) (AV.sl (some (3, 0)) l 0 false))) a)).toNat * 1) [int i64 (i64.wrap (intV L[0 + (opq (nzI (ilOf (rowOf (hFl2a0 O C o L X Q k l n q a i) (AV.sl (some (3, 0)) l 0 false))) a)).toNat * 1]? - 1))]) 1 Md.own none, cells (putCells X (0 + (intV Q[0 + i.toNat * 1]?).toNat * 18) (List.take 18 (List.drop (0 + (opq (nzI (ilOf (rowOf (hFl2a0 O C o L X Q k l n q a i) (AV.sl (some (3, 0)) l 0 false))) a)).toNat * 19 + 0) C))) 18 Md.own none, ABlk.cells Q 1 Md.own none]
theorem nfFl2a (O C : List AV) (o : Nat) (L X Q : List AV) (k l n q : Nat) (a i : Int) :
 qround Try.prog tFlL 100 4 [(87, .bool true)] lsFl FL2 mFl2 (vFl2 k l n q a i) (hFl O C o L X Q) =
 (if decide (i < (q : Int)) = true then
 (if 0 ≤ i ∧ i < (q : Int) then
 (if isIntV i64 Q[0 + i.toNat * 1]? = true then
 (if cdec (LSays bFl3 6 [AV.sl (some (1, 0)) k 0 false, AV.sl (some (3, 0)) l 0 false, AV.sl (some (4, 0)) n 0 false, int i64 a, int i64 (intV Q[0 + i.toNat * 1]?), AV.sl (some (5, 0)) q 0 false, int i64 (q : Int), int i64 i] (hFl2a0 O C o L X Q k l n q a i) (AEx.exit 4) [AV.sl (some (1, 0)) k 0 false, AV.sl (some (3, 0)) l 0 false, AV.sl (some (4, 0)) n 0 false, int i64 (opq (nzI (ilOf (rowOf (hFl2a0 O C o L X Q k l n q a i) (AV.sl (some (3, 0)) l 0 false))) a)), int i64 (intV Q[0 + i.toNat * 1]?), AV.sl (some (5, 0)) q 0 false, int i64 (q : Int), int i64 i] (hFl2a0 O C o L X Q k l n q a i)) = true then
 (if 0 ≤ opq (nzI (ilOf (rowOf (hFl2a0 O C o L X Q k l n q a i) (AV.sl (some (3, 0)) l 0 false))) a) ∧ opq (nzI (ilOf (rowOf (hFl2a0 O C o L X Q k l n q a i) (AV.sl (some (3, 0)) l 0 false))) a) < (k : Int) then
 (if 0 + (opq (nzI (ilOf (rowOf (hFl2a0 O C o L X Q k l n q a i) (AV.sl (some (3, 0)) l 0 false))) a)).toNat * 19 + 0 + 18 ≤ C.length then
 (if 0 ≤ intV Q[0 + i.toNat * 1]? ∧ intV Q[0 + i.toNat * 1]? < (n : Int) then
 (if (List.take 18 (List.drop (0 + (opq (nzI (ilOf (rowOf (hFl2a0 O C o L X Q k l n q a i) (AV.sl (some (3, 0)) l 0 false))) a)).toNat * 19 + 0) C)).length = 18 then
 (if 0 + (intV Q[0 + i.toNat * 1]?).toNat * 18 + (List.take 18 (List.drop (0 + (opq (nzI (ilOf (rowOf (hFl2a0 O C o L X Q k l n q a i) (AV.sl (some (3, 0)) l 0 false))) a)).toNat * 19 + 0) C)).length ≤ X.length ∧ (List.take 18 (List.drop (0 + (opq (nzI (ilOf (rowOf (hFl2a0 O C o L X Q k l n q a i) (AV.sl (some (3, 0)) l 0 false))) a)).toNat * 19 + 0) C)).all AV.isCell = true then
 (if 0 ≤ opq (nzI (ilOf (rowOf (hFl2a0 O C o L X Q k l n q a i) (AV.sl (some (3, 0)) l 0 false))) a) ∧ opq (nzI (ilOf (rowOf (hFl2a0 O C o L X Q k l n q a i) (AV.sl (some (3, 0)) l 0 false))) a) < (l : Int) then
 (if isIntV i64 L[0 + (opq (nzI (ilOf (rowOf (hFl2a0 O C o L X Q k l n q a i) (AV.sl (some (3, 0)) l 0 false))) a)).toNat * 1]? = true then
 (if 0 ≤ opq (nzI (ilOf (rowOf (hFl2a0 O C o L X Q k l n q a i) (AV.sl (some (3, 0)) l 0 false))) a) ∧ opq (nzI (ilOf (rowOf (hFl2a0 O C o L X Q k l n q a i) (AV.sl (some (3, 0)) l 0 false))) a) < (l : Int) then
 (if 0 + (opq (nzI (ilOf (rowOf (hFl2a0 O C o L X Q k l n q a i) (AV.sl (some (3, 0)) l 0 false))) a)).toNat * 1 + [int i64 (i64.wrap (intV L[0 + (opq (nzI (ilOf (rowOf (hFl2a0 O C o L X Q k l n q a i) (AV.sl (some (3, 0)) l 0 false))) a)).toNat * 1]? - 1))].length ≤ L.length ∧ [int i64 (i64.wrap (intV L[0 + (opq (nzI (ilOf (rowOf (hFl2a0 O C o L X Q k l n q a i) (AV.sl (some (3, 0)) l 0 false))) a)).toNat * 1]? - 1))].all AV.isCell = true then
 some ((AEx.norm, [AV.sl (some (1, 0)) k 0 false, AV.sl (some (3, 0)) l 0 false, AV.sl (some (4, 0)) n 0 false, int i64 (opq (nzI (ilOf (rowOf (hFl2a0 O C o L X Q k l n q a i) (AV.sl (some (3, 0)) l 0 false))) a)), AV.sl (some (5, 0)) q 0 false, int i64 (q : Int), int i64 (i64.wrap (i + 1))], (hFl2a1 O C o L X Q k l n q a i)))
 else none) else none) else none) else none) else none) else none) else none) else none) else none) else none) else none) else none) else none) := by
  kernel_rfl

noncomputable def hFl2s0 (O C : List AV) (o : Nat) (L X Q : List AV) (k l n q : Nat) (a i : Int) : AHeap := [ABlk.cells O 18 Md.far none, ABlk.cells C 19 Md.far none, cells [AV.sl (some (0, 0)) o 0 false] 1 Md.own none, ABlk.cells L 1 Md.own none, ABlk.cells X 18 Md.own none, ABlk.cells Q 1 Md.own none]
theorem nfFl2s (O C : List AV) (o : Nat) (L X Q : List AV) (k l n q : Nat) (a i : Int) :
 qround Try.prog tFlL 100 4 [(87, .bool false)] lsFl FL2 mFl2 (vFl2 k l n q a i) (hFl O C o L X Q) =
 (if decide (i < (q : Int)) = false then
 some ((AEx.exit 2, [AV.sl (some (1, 0)) k 0 false, AV.sl (some (3, 0)) l 0 false, AV.sl (some (4, 0)) n 0 false, int i64 a, AV.sl (some (5, 0)) q 0 false, int i64 (q : Int), int i64 i], (hFl2s0 O C o L X Q k l n q a i)))
 else none) := by
  kernel_rfl

noncomputable def hFl3a0 (O C : List AV) (o : Nat) (L X Q : List AV) (k l n q : Nat) (a x i : Int) : AHeap := [ABlk.cells O 18 Md.far none, ABlk.cells C 19 Md.far none, cells [AV.sl (some (0, 0)) o 0 false] 1 Md.own none, ABlk.cells L 1 Md.own none, ABlk.cells X 18 Md.own none, ABlk.cells Q 1 Md.own none]
theorem nfFl3a (O C : List AV) (o : Nat) (L X Q : List AV) (k l n q : Nat) (a x i : Int) :
 qround Try.prog tFlL 100 4 [(94, .bool true)] noT FL3 mFl3 (vFl3 k l n q a x i) (hFl O C o L X Q) =
 (if 0 ≤ a ∧ a < (l : Int) then
 (if isIntV i64 L[0 + a.toNat * 1]? = true then
 (if (intV L[0 + a.toNat * 1]? == 0) = true then
 some ((AEx.norm, [AV.sl (some (1, 0)) k 0 false, AV.sl (some (3, 0)) l 0 false, AV.sl (some (4, 0)) n 0 false, int i64 (i64.wrap (a + 1)), int i64 x, AV.sl (some (5, 0)) q 0 false, int i64 (q : Int), int i64 i], (hFl3a0 O C o L X Q k l n q a x i)))
 else none) else none) else none) := by
  kernel_rfl

noncomputable def hFl3s0 (O C : List AV) (o : Nat) (L X Q : List AV) (k l n q : Nat) (a x i : Int) : AHeap := [ABlk.cells O 18 Md.far none, ABlk.cells C 19 Md.far none, cells [AV.sl (some (0, 0)) o 0 false] 1 Md.own none, ABlk.cells L 1 Md.own none, ABlk.cells X 18 Md.own none, ABlk.cells Q 1 Md.own none]
theorem nfFl3s (O C : List AV) (o : Nat) (L X Q : List AV) (k l n q : Nat) (a x i : Int) :
 qround Try.prog tFlL 100 4 [(94, .bool false)] noT FL3 mFl3 (vFl3 k l n q a x i) (hFl O C o L X Q) =
 (if 0 ≤ a ∧ a < (l : Int) then
 (if isIntV i64 L[0 + a.toNat * 1]? = true then
 (if (intV L[0 + a.toNat * 1]? == 0) = false then
 some ((AEx.exit 4, [AV.sl (some (1, 0)) k 0 false, AV.sl (some (3, 0)) l 0 false, AV.sl (some (4, 0)) n 0 false, int i64 a, int i64 x, AV.sl (some (5, 0)) q 0 false, int i64 (q : Int), int i64 i], (hFl3s0 O C o L X Q k l n q a x i)))
 else none) else none) else none) := by
  kernel_rfl

noncomputable def hFle0 (O C : List AV) (o k : Nat) (n : Int) : AHeap := [ABlk.cells O 18 Md.far none, ABlk.cells C 19 Md.far none, cells [AV.sl (some (0, 0)) o 0 false] 1 Md.own none]
noncomputable def hFle1 (O C : List AV) (o k : Nat) (n : Int) : AHeap := []
theorem nfFle {R : Type} (O C : List AV) (o k : Nat) (n : Int) (K : AV → AHeap → Option R) :
 qrun Try.prog tFlL 100 4 [(37, .bool true)] [] 10 [.sl (some (0, 0)) o 0 false, .sl (some (1, 0)) k 0 false, .int .i64 n] [.cells O 18 .far none, .cells C 19 .far none] K =
 (if decide (n < 1) = true then
 K (AV.tup [AV.sl none 0 0 true, int i64 1]) ((hFle0 O C o k n))
 else (if decide (n > 64) = true then
 K (AV.tup [AV.sl none 0 0 true, int i64 1]) ((hFle0 O C o k n))
 else (if cdec (CkR [AV.sl (some (1, 0)) k 0 false] (hFle0 O C o k n) (int i64 (opq (chkP (plOf (rowOf (hFle0 O C o k n) (AV.sl (some (1, 0)) k 0 false)))))) (hFle1 O C o k n)) = true then
 (if (opq (chkP (plOf (rowOf (hFle0 O C o k n) (AV.sl (some (1, 0)) k 0 false)))) != 0) = true then
 K (AV.tup [AV.sl none 0 0 true, int i64 1]) ((hFle0 O C o k n))
 else (if decide ((o : Int) > 0) = true then
 (if ((o : Int) != n) = true then
 K (AV.tup [AV.sl none 0 0 true, int i64 1]) ((hFle0 O C o k n))
 else none) else none))
 else none))) := by
  kernel_rfl

noncomputable def hFln0 (O C : List AV) (o k : Nat) (n : Int) : AHeap := [ABlk.cells O 18 Md.far none, ABlk.cells C 19 Md.far none, cells [AV.sl (some (0, 0)) o 0 false] 1 Md.own none]
noncomputable def hFln1 (O C : List AV) (o k : Nat) (n : Int) : AHeap := []
theorem nfFln {R : Type} (O C : List AV) (o k : Nat) (n : Int) (K : AV → AHeap → Option R) :
 qrun Try.prog tFlL 100 4 [(37, .bool false), (40, .bool true)] [] 10 [.sl (some (0, 0)) o 0 false, .sl (some (1, 0)) k 0 false, .int .i64 n] [.cells O 18 .far none, .cells C 19 .far none] K =
 (if decide (n < 1) = true then
 none
 else (if decide (n > 64) = true then
 none
 else (if cdec (CkR [AV.sl (some (1, 0)) k 0 false] (hFln0 O C o k n) (int i64 (opq (chkP (plOf (rowOf (hFln0 O C o k n) (AV.sl (some (1, 0)) k 0 false)))))) (hFln1 O C o k n)) = true then
 (if (opq (chkP (plOf (rowOf (hFln0 O C o k n) (AV.sl (some (1, 0)) k 0 false)))) != 0) = true then
 none
 else (if decide ((o : Int) > 0) = true then
 (if ((o : Int) != n) = false then
 (if ((k : Int) == 0) = true then
 K (AV.tup [AV.sl none 0 0 true, int i64 0]) ((hFln0 O C o k n))
 else none) else none)
 else (if ((k : Int) == 0) = true then
 K (AV.tup [AV.sl none 0 0 true, int i64 0]) ((hFln0 O C o k n))
 else none)))
 else none))) := by
  kernel_rfl

noncomputable def hFlm0 (q1 q2 : Prop) (O C : List AV) (o k l n q : Nat) (S : List Int) (L X Q L2 X2 : List AV) (a : Int) : AHeap := [ABlk.cells O 18 Md.far none, ABlk.cells C 19 Md.far none, cells [AV.sl (some (0, 0)) o 0 false] 1 Md.own none]
noncomputable def hFlm1 (q1 q2 : Prop) (O C : List AV) (o k l n q : Nat) (S : List Int) (L X Q L2 X2 : List AV) (a : Int) : AHeap := []
noncomputable def hFlm2 (q1 q2 : Prop) (O C : List AV) (o k l n q : Nat) (S : List Int) (L X Q L2 X2 : List AV) (a : Int) : AHeap := [cells (intL S) 1 Md.own none]
noncomputable def hFlm3 (q1 q2 : Prop) (O C : List AV) (o k l n q : Nat) (S : List Int) (L X Q L2 X2 : List AV) (a : Int) : AHeap := [ABlk.cells O 18 Md.far none, ABlk.cells C 19 Md.far none, cells [AV.sl (some (0, 0)) o 0 false] 1 Md.own none, cells (intL S) 1 Md.own none, cells (zrep ((n : Int)).toNat [AV.bool false, int u8 0, int u8 0, int u8 0, int u8 0, int u8 0, int u8 0, int u8 0, int u8 0, int u8 0, int u8 0, int u8 0, int u8 0, int u8 0, int u8 0, int u8 0, int u8 0, int u16 0]) 18 Md.own none]
noncomputable def hFlm4 (q1 q2 : Prop) (O C : List AV) (o k l n q : Nat) (S : List Int) (L X Q L2 X2 : List AV) (a : Int) : AHeap := [ABlk.cells O 18 Md.far none, ABlk.cells C 19 Md.far none, cells [AV.sl (some (0, 0)) o 0 false] 1 Md.own none, cells (intL S) 1 Md.own none, cells (zrep n dipZ) 18 Md.own none]
noncomputable def hFlm5 (q1 q2 : Prop) (O C : List AV) (o k l n q : Nat) (S : List Int) (L X Q L2 X2 : List AV) (a : Int) : AHeap := [ABlk.cells O 18 Md.far none, ABlk.cells C 19 Md.far none, cells [AV.sl (some (0, 0)) o 0 false] 1 Md.own none, ABlk.cells L 1 Md.own none, ABlk.cells X 18 Md.own none, ABlk.cells Q 1 Md.own none]
noncomputable def hFlm6 (q1 q2 : Prop) (O C : List AV) (o k l n q : Nat) (S : List Int) (L X Q L2 X2 : List AV) (a : Int) : AHeap := [ABlk.cells O 18 Md.far none, ABlk.cells C 19 Md.far none, cells [AV.sl (some (0, 0)) o 0 false] 1 Md.own none, ABlk.cells L2 1 Md.own none, ABlk.cells X2 18 Md.own none, ABlk.cells Q 1 Md.own none]
theorem nfFlm {R : Type} (q1 q2 : Prop) (O C : List AV) (o k l n q : Nat) (S : List Int) (L X Q L2 X2 : List AV) (a : Int) (K : AV → AHeap → Option R) :
 qrun Try.prog (tFl l S) 100 4 [(37, .bool false), (40, .bool false)] [(9, fixC q1 mFl1 (vFl1z k l n 0) [.cells O 18 .far none, .cells C 19 .far none, .cells [.sl (some (0, 0)) o 0 false] 1 .own none, .cells (intL S) 1 .own none, .cells (zrep n dipZ) 18 .own none] (.exit 0) (vFl1 k l n q n) (hFl O C o L X Q)), (21, fixC q2 mFl2 (vFl2 k l n q 0 0) (hFl O C o L X Q) (.exit 2) (vFl2 k l n q a q) (hFl O C o L2 X2 Q))] 10 [.sl (some (0, 0)) o 0 false, .sl (some (1, 0)) k 0 false, .int .i64 n] [.cells O 18 .far none, .cells C 19 .far none] K =
 (if decide ((n : Int) < 1) = true then
 none
 else (if decide ((n : Int) > 64) = true then
 none
 else (if cdec (CkR [AV.sl (some (1, 0)) k 0 false] (hFlm0 q1 q2 O C o k l n q S L X Q L2 X2 a) (int i64 (opq (chkP (plOf (rowOf (hFlm0 q1 q2 O C o k l n q S L X Q L2 X2 a) (AV.sl (some (1, 0)) k 0 false)))))) (hFlm1 q1 q2 O C o k l n q S L X Q L2 X2 a)) = true then
 (if (opq (chkP (plOf (rowOf (hFlm0 q1 q2 O C o k l n q S L X Q L2 X2 a) (AV.sl (some (1, 0)) k 0 false)))) != 0) = true then
 none
 else (if decide ((o : Int) > 0) = true then
 (if ((o : Int) != (n : Int)) = false then
 (if ((k : Int) == 0) = false then
 (if cdec (ShR [AV.sl (some (1, 0)) k 0 false, int i64 (n : Int)] (hFlm0 q1 q2 O C o k l n q S L X Q L2 X2 a) (AV.sl (some (3, 0)) l 0 false) (hFlm2 q1 q2 O C o k l n q S L X Q L2 X2 a)) = true then
 (if 18 = 18 ∧ 0 < 18 ∧ 0 ≤ (n : Int) ∧ (n : Int) ≤ (n : Int) ∧ (n : Int) ≤ 70368744177664 ∧ 20 * (n : Int) ≤ 281474976710656 then
 (if cdec
 (q1 ∧
 [AV.sl (some (1, 0)) k 0 false, AV.ptr (some (2, 0)), AV.sl (some (3, 0)) l 0 false,
 AV.sl (some (4, 0)) ((n : Int)).toNat
 (match true with
 | true => 0
 | false => ((n : Int)).toNat)
 false,
 AV.sl none 0 0 true, int i64 ((((n : Int)).toNat : Nat) : Int), int i64 0] =
 [AV.sl (some (1, 0)) k 0 false, AV.ptr (some (2, 0)), AV.sl (some (3, 0)) l 0 false, AV.sl (some (4, 0)) n 0 false, AV.sl none 0 0 true, int i64 (n : Int), int i64 0] ∧
 (hFlm3 q1 q2 O C o k l n q S L X Q L2 X2 a) = (hFlm4 q1 q2 O C o k l n q S L X Q L2 X2 a)) =
 true then
 (if cdec (q2 ∧ [AV.sl (some (1, 0)) k 0 false, AV.sl (some (3, 0)) l 0 false, AV.sl (some (4, 0)) n 0 false, int i64 0, AV.sl (some (5, 0)) q 0 false, int i64 (q : Int), int i64 0] = [AV.sl (some (1, 0)) k 0 false, AV.sl (some (3, 0)) l 0 false, AV.sl (some (4, 0)) n 0 false, int i64 0, AV.sl (some (5, 0)) q 0 false, int i64 (q : Int), int i64 0] ∧ (hFlm5 q1 q2 O C o k l n q S L X Q L2 X2 a) = (hFlm5 q1 q2 O C o k l n q S L X Q L2 X2 a)) = true then
 K (AV.tup [AV.sl (some (4, 0)) n 0 false, int i64 0]) ((hFlm6 q1 q2 O C o k l n q S L X Q L2 X2 a))
 else none) else none) else none) else none) else none) else none)
 else (if ((k : Int) == 0) = false then
 (if cdec (ShR [AV.sl (some (1, 0)) k 0 false, int i64 (n : Int)] (hFlm0 q1 q2 O C o k l n q S L X Q L2 X2 a) (AV.sl (some (3, 0)) l 0 false) (hFlm2 q1 q2 O C o k l n q S L X Q L2 X2 a)) = true then
 (if 18 = 18 ∧ 0 < 18 ∧ 0 ≤ (n : Int) ∧ (n : Int) ≤ (n : Int) ∧ (n : Int) ≤ 70368744177664 ∧ 20 * (n : Int) ≤ 281474976710656 then
 (if cdec
 (q1 ∧
 [AV.sl (some (1, 0)) k 0 false, AV.ptr (some (2, 0)), AV.sl (some (3, 0)) l 0 false,
 AV.sl (some (4, 0)) ((n : Int)).toNat
 (match true with
 | true => 0
 | false => ((n : Int)).toNat)
 false,
 AV.sl none 0 0 true, int i64 ((((n : Int)).toNat : Nat) : Int), int i64 0] =
 [AV.sl (some (1, 0)) k 0 false, AV.ptr (some (2, 0)), AV.sl (some (3, 0)) l 0 false, AV.sl (some (4, 0)) n 0 false, AV.sl none 0 0 true, int i64 (n : Int), int i64 0] ∧
 (hFlm3 q1 q2 O C o k l n q S L X Q L2 X2 a) = (hFlm4 q1 q2 O C o k l n q S L X Q L2 X2 a)) =
 true then
 (if cdec (q2 ∧ [AV.sl (some (1, 0)) k 0 false, AV.sl (some (3, 0)) l 0 false, AV.sl (some (4, 0)) n 0 false, int i64 0, AV.sl (some (5, 0)) q 0 false, int i64 (q : Int), int i64 0] = [AV.sl (some (1, 0)) k 0 false, AV.sl (some (3, 0)) l 0 false, AV.sl (some (4, 0)) n 0 false, int i64 0, AV.sl (some (5, 0)) q 0 false, int i64 (q : Int), int i64 0] ∧ (hFlm5 q1 q2 O C o k l n q S L X Q L2 X2 a) = (hFlm5 q1 q2 O C o k l n q S L X Q L2 X2 a)) = true then
 K (AV.tup [AV.sl (some (4, 0)) n 0 false, int i64 0]) ((hFlm6 q1 q2 O C o k l n q S L X Q L2 X2 a))
 else none) else none) else none) else none) else none)))
 else none))) := by
  kernel_rfl


end Go.Proofs.Ytlppbeoiphglcaa.L
