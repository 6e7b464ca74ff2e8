/- FifoNumbers' rows. -/
import Derived.Test.YtdildbadafdbgaaIxib
import Derived.Test.YtdildbadafdbgaaAwake20
import Derived.Test.YtdildbadafdbgaaFifoKit
set_option autoImplicit false
set_option maxRecDepth 100000
set_option linter.unusedVariables false
namespace Go.Proofs.Ytdildbadafdbgaa.L
open Go Go.Abs
open Go.IntKind
open Go.Abs.AV (int)
open Go.Abs.ABlk (cells)

def mFN : List Bool := List.replicate 3 true ++ List.replicate 4 false ++ List.replicate 1 true ++ List.replicate 1 false ++ List.replicate 3 true ++ List.replicate 123 false
noncomputable abbrev LFN := loopIn (bodyOf Try.prog 4) 0
def farI (l : List Int) : ABlk := .cells (l.map (AV.int .i64)) 1 .far none
def vFN (m n : Int) (l : List Int) (x f i : Int) : List AV := [.int .i64 m, .int .i64 n, .sl (some (0, 0)) l.length 0 false, .ptr (some (1, 0)), .int .i64 x, .int .i64 f, .int .i64 i]
def hFN (l : List Int) (m x : Int) (o n : Nat) (C : List AV) : AHeap := [farI l, .cells [.int .i64 m, .int .i64 x, .sl (some (2, o)) n 0 false] 3 .own none, .cells C 2 .own none]
noncomputable def tFN : Tbl := [(37, entF (eRel RIxib [(4, .int .i64 (-1), []), (5, .int .i64 (-1), []), (6, .int .i64 (-1), []), (7, .int .i64 (-1), [])])), (7, entF eAwake)]
theorem tFNOk : ∀ f E, tFN.find f = some E → SoundE Try.prog f E := find_cons (sIxib _) (find_cons sAwake (find_nil _))


noncomputable def hFNA0 (l : List Int) (m x f i : Int) (n : Int) (o k : Nat) (C : List AV) : AHeap := [cells (List.map (int i64) l) 1 Md.far none, cells [int i64 m, int i64 x, AV.sl (some (2, o)) k 0 false] 3 Md.own none, ABlk.cells C 2 Md.own none, cells [int i64 i] 1 Md.own none]
noncomputable def hFNA1 (l : List Int) (m x f i : Int) (n : Int) (o k : Nat) (C : List AV) : AHeap := []
noncomputable def hFNA2 (l : List Int) (m x f i : Int) (n : Int) (o k : Nat) (C : List AV) : AHeap := [cells (List.map (int i64) l) 1 Md.far none, cells [int i64 m, int i64 (i64.wrap (intV (some (int i64 x)) + 1)), AV.sl (some (5, 0)) (k + 1) 0 false] 3 Md.own none, ABlk.cells C 2 Md.ro none, cells [int i64 i] 1 Md.own none, cells [int i64 i, AV.bool true] 2 Md.own none, cells (List.take (k * 2) (List.drop o C) ++ [int i64 i, AV.bool true]) 2 Md.own (some 2)]
theorem nfFNA (l : List Int) (m x f i : Int) (n : Int) (o k : Nat) (C : List AV) :
 qround Try.prog tFN 100 5 [(51, .bool true), (76, .bool false), (78, .bool true), (85, .bool false), (133, .bool false)] noT LFN mFN (vFN m n l x f i) (hFN l m x o k C) =
 (if decide (i < n) = true then
 (if cdec (RIxib [AV.sl (some (2, o)) k 0 false, AV.fn (Fn.func 38) [AV.ptr (some (3, 0))]] (hFNA0 l m x f i n o k C) (int i64 (-1)) (hFNA1 l m x f i n o k C)) = true then
 (if decide ((k : Int) ≥ intV (some (int i64 m))) = true then
 (if (!false == decide (i64.wrap (x - f) < m)) = true then
 none
 else none)
 else (if (2 * (k + 1) + 200) * 16 ≤ 281474976710656 ∧ some 2 = some 2 ∧ k + 1 ≤ 70368744177664 then
 (if o + k * 2 ≤ C.length then
 (if 0 = 0 ∧ o + k * 2 = C.length ∧ (0 < 1 ∨ o = 0) ∧ 2 = 2 ∧ [int i64 i, AV.bool true].all AV.isCell = true then
 (if (!true == decide (i64.wrap (x - f) < m)) = true then
 none
 else (if (i64.wrap (intV (some (int i64 (i64.wrap (intV (some (int i64 x)) + 1)))) - 1) != x) = false then
 (if decide (i < (l.length : Int)) = false then
 (if (i64.wrap (intV (some (int i64 (i64.wrap (intV (some (int i64 x)) + 1)))) - (((k + 1) : Nat) : Int)) != f) = true then
 none
 else (if (intV (some (int i64 (i64.wrap (intV (some (int i64 x)) + 1)))) != i64.wrap (x + 1)) = true then
 none
 else (if ((((k + 1) : Nat) : Int) != i64.wrap (i64.wrap (x + 1) - f)) = false then
 some ((AEx.norm, [int i64 m, int i64 n, AV.sl (some (0, 0)) l.length 0 false, AV.ptr (some (1, 0)), int i64 (i64.wrap (x + 1)), int i64 f, int i64 (i64.wrap (i + 1))], (hFNA2 l m x f i n o k C)))
 else none)))
 else none) else none))
 else none) else none) else none))
 else none) else none) := by
  kernel_rfl

noncomputable def hFNB0 (l : List Int) (m x f i : Int) (n : Int) (o k : Nat) (C : List AV) : AHeap := [cells (List.map (int i64) l) 1 Md.far none, cells [int i64 m, int i64 x, AV.sl (some (2, o)) k 0 false] 3 Md.own none, ABlk.cells C 2 Md.own none, cells [int i64 i] 1 Md.own none]
noncomputable def hFNB1 (l : List Int) (m x f i : Int) (n : Int) (o k : Nat) (C : List AV) : AHeap := []
noncomputable def hFNB2 (l : List Int) (m x f i : Int) (n : Int) (o k : Nat) (C : List AV) : AHeap := [cells (List.map (int i64) l) 1 Md.far none, cells [int i64 m, int i64 (i64.wrap (intV (some (int i64 x)) + 1)), AV.sl (some (5, 0)) (k + 1) 0 false] 3 Md.own none, ABlk.cells C 2 Md.ro none, cells [int i64 i] 1 Md.own none, cells [int i64 i, AV.bool true] 2 Md.own none, cells (List.take (k * 2) (List.drop o C) ++ [int i64 i, AV.bool true]) 2 Md.own (some 2)]
theorem nfFNB (l : List Int) (m x f i : Int) (n : Int) (o k : Nat) (C : List AV) :
 qround Try.prog tFN 100 5 [(51, .bool true), (76, .bool false), (78, .bool true), (85, .bool true), (91, .bool false), (133, .bool false)] noT LFN mFN (vFN m n l x f i) (hFN l m x o k C) =
 (if decide (i < n) = true then
 (if cdec (RIxib [AV.sl (some (2, o)) k 0 false, AV.fn (Fn.func 38) [AV.ptr (some (3, 0))]] (hFNB0 l m x f i n o k C) (int i64 (-1)) (hFNB1 l m x f i n o k C)) = true then
 (if decide ((k : Int) ≥ intV (some (int i64 m))) = true then
 (if (!false == decide (i64.wrap (x - f) < m)) = true then
 none
 else none)
 else (if (2 * (k + 1) + 200) * 16 ≤ 281474976710656 ∧ some 2 = some 2 ∧ k + 1 ≤ 70368744177664 then
 (if o + k * 2 ≤ C.length then
 (if 0 = 0 ∧ o + k * 2 = C.length ∧ (0 < 1 ∨ o = 0) ∧ 2 = 2 ∧ [int i64 i, AV.bool true].all AV.isCell = true then
 (if (!true == decide (i64.wrap (x - f) < m)) = true then
 none
 else (if (i64.wrap (intV (some (int i64 (i64.wrap (intV (some (int i64 x)) + 1)))) - 1) != x) = false then
 (if decide (i < (l.length : Int)) = true then
 (if 0 ≤ i ∧ i < (l.length : Int) then
 (if isIntV i64 (List.map (int i64) l)[0 + i.toNat * 1]? = true then
 (if ((intV (List.map (int i64) l)[0 + i.toNat * 1]?).tmod 2 == 0) = false then
 (if (i64.wrap (intV (some (int i64 (i64.wrap (intV (some (int i64 x)) + 1)))) - (((k + 1) : Nat) : Int)) != f) = true then
 none
 else (if (intV (some (int i64 (i64.wrap (intV (some (int i64 x)) + 1)))) != i64.wrap (x + 1)) = true then
 none
 else (if ((((k + 1) : Nat) : Int) != i64.wrap (i64.wrap (x + 1) - f)) = false then
 some ((AEx.norm, [int i64 m, int i64 n, AV.sl (some (0, 0)) l.length 0 false, AV.ptr (some (1, 0)), int i64 (i64.wrap (x + 1)), int i64 f, int i64 (i64.wrap (i + 1))], (hFNB2 l m x f i n o k C)))
 else none)))
 else none) else none) else none) else none) else none))
 else none) else none) else none))
 else none) else none) := by
  kernel_rfl

noncomputable def hFNC0 (l : List Int) (m x f i : Int) (n : Int) (o k : Nat) (C : List AV) : AHeap := [cells (List.map (int i64) l) 1 Md.far none, cells [int i64 m, int i64 x, AV.sl (some (2, o)) k 0 false] 3 Md.own none, ABlk.cells C 2 Md.own none, cells [int i64 i] 1 Md.own none]
noncomputable def hFNC1 (l : List Int) (m x f i : Int) (n : Int) (o k : Nat) (C : List AV) : AHeap := []
noncomputable def hFNC2 (l : List Int) (m x f i : Int) (n : Int) (o k : Nat) (C : List AV) : AHeap := [cells (List.map (int i64) l) 1 Md.far none, cells [int i64 m, int i64 (i64.wrap (intV (some (int i64 x)) + 1)), AV.sl (some (5, 2)) (k + 1 - 1) (roomOf (k + 1) 0 1 true (k + 1) false) false] 3 Md.own none, ABlk.cells C 2 Md.ro none, cells [int i64 i] 1 Md.own none, cells [int i64 i, AV.bool true] 2 Md.own none, cells (List.take (k * 2) (List.drop o C) ++ [int i64 i, AV.bool true]) 2 Md.own (some 2), cells (putCells [int i64 0, AV.bool false] 0 (List.take 2 (List.take (k * 2) (List.drop o C) ++ [int i64 i, AV.bool true]))) 2 Md.own none]
theorem nfFNC (l : List Int) (m x f i : Int) (n : Int) (o k : Nat) (C : List AV) :
 qround Try.prog tFN 100 5 [(51, .bool true), (76, .bool false), (78, .bool true), (85, .bool true), (91, .bool true), (112, .bool false), (113, .bool true), (133, .bool false)] noT LFN mFN (vFN m n l x f i) (hFN l m x o k C) =
 (if decide (i < n) = true then
 (if cdec (RIxib [AV.sl (some (2, o)) k 0 false, AV.fn (Fn.func 38) [AV.ptr (some (3, 0))]] (hFNC0 l m x f i n o k C) (int i64 (-1)) (hFNC1 l m x f i n o k C)) = true then
 (if decide ((k : Int) ≥ intV (some (int i64 m))) = true then
 (if (!false == decide (i64.wrap (x - f) < m)) = true then
 none
 else none)
 else (if (2 * (k + 1) + 200) * 16 ≤ 281474976710656 ∧ some 2 = some 2 ∧ k + 1 ≤ 70368744177664 then
 (if o + k * 2 ≤ C.length then
 (if 0 = 0 ∧ o + k * 2 = C.length ∧ (0 < 1 ∨ o = 0) ∧ 2 = 2 ∧ [int i64 i, AV.bool true].all AV.isCell = true then
 (if (!true == decide (i64.wrap (x - f) < m)) = true then
 none
 else (if (i64.wrap (intV (some (int i64 (i64.wrap (intV (some (int i64 x)) + 1)))) - 1) != x) = false then
 (if decide (i < (l.length : Int)) = true then
 (if 0 ≤ i ∧ i < (l.length : Int) then
 (if isIntV i64 (List.map (int i64) l)[0 + i.toNat * 1]? = true then
 (if ((intV (List.map (int i64) l)[0 + i.toNat * 1]?).tmod 2 == 0) = true then
 (if Int.ofNat 0 ≤ Int.ofNat 0 ∧ 0 < (((k + 1) : Nat) : Int) then
 (if 2 ≤ (List.take (k * 2) (List.drop o C) ++ [int i64 i, AV.bool true]).length then
 (if (List.take 2 (List.take (k * 2) (List.drop o C) ++ [int i64 i, AV.bool true])).length = 2 then
 (if 0 + (List.take 2 (List.take (k * 2) (List.drop o C) ++ [int i64 i, AV.bool true])).length ≤ 2 ∧ (List.take 2 (List.take (k * 2) (List.drop o C) ++ [int i64 i, AV.bool true])).all AV.isCell = true then
 (if Int.ofNat 0 ≤ Int.ofNat 1 ∧ 1 ≤ (((k + 1) : Nat) : Int) then
 (if isIntV i64 (putCells [int i64 0, AV.bool false] 0 (List.take 2 (List.take (k * 2) (List.drop o C) ++ [int i64 i, AV.bool true])))[0]? = true then
 (if isBoolV (putCells [int i64 0, AV.bool false] 0 (List.take 2 (List.take (k * 2) (List.drop o C) ++ [int i64 i, AV.bool true])))[1]? = true then
 (if (!true == decide (f < i64.wrap (x + 1))) = true then
 none
 else (if (i64.wrap (intV (some (int i64 (i64.wrap (intV (some (int i64 x)) + 1)))) - (((k + 1) : Nat) : Int)) != f) = false then
 (if (i64.wrap (intV (some (int i64 (i64.wrap (intV (some (int i64 x)) + 1)))) - (((k + 1 - 1) : Nat) : Int)) != i64.wrap (f + 1)) = true then
 none
 else (if (intV (some (int i64 (i64.wrap (intV (some (int i64 x)) + 1)))) != i64.wrap (x + 1)) = true then
 none
 else (if ((((k + 1 - 1) : Nat) : Int) != i64.wrap (i64.wrap (x + 1) - i64.wrap (f + 1))) = false then
 some ((AEx.norm, [int i64 m, int i64 n, AV.sl (some (0, 0)) l.length 0 false, AV.ptr (some (1, 0)), int i64 (i64.wrap (x + 1)), int i64 (i64.wrap (f + 1)), int i64 (i64.wrap (i + 1))], (hFNC2 l m x f i n o k C)))
 else none)))
 else none))
 else none) else none) else none) else none) else none) else none) else none) else none) else none) else none) else none) else none))
 else none) else none) else none))
 else none) else none) := by
  kernel_rfl

noncomputable def hFND0 (l : List Int) (m x f i : Int) (n : Int) (o k : Nat) (C : List AV) : AHeap := [cells (List.map (int i64) l) 1 Md.far none, cells [int i64 m, int i64 x, AV.sl (some (2, o)) k 0 false] 3 Md.own none, ABlk.cells C 2 Md.own none, cells [int i64 i] 1 Md.own none]
noncomputable def hFND1 (l : List Int) (m x f i : Int) (n : Int) (o k : Nat) (C : List AV) : AHeap := []
theorem nfFND (l : List Int) (m x f i : Int) (n : Int) (o k : Nat) (C : List AV) :
 qround Try.prog tFN 100 5 [(51, .bool true), (76, .bool false), (78, .bool false), (85, .bool false), (133, .bool false)] noT LFN mFN (vFN m n l x f i) (hFN l m x o k C) =
 (if decide (i < n) = true then
 (if cdec (RIxib [AV.sl (some (2, o)) k 0 false, AV.fn (Fn.func 38) [AV.ptr (some (3, 0))]] (hFND0 l m x f i n o k C) (int i64 (-1)) (hFND1 l m x f i n o k C)) = true then
 (if decide ((k : Int) ≥ intV (some (int i64 m))) = true then
 (if (!false == decide (i64.wrap (x - f) < m)) = true then
 none
 else (if decide (i < (l.length : Int)) = false then
 (if (i64.wrap (intV (some (int i64 x)) - (k : Int)) != f) = true then
 none
 else (if (intV (some (int i64 x)) != x) = true then
 none
 else (if ((k : Int) != i64.wrap (x - f)) = false then
 some ((AEx.norm, [int i64 m, int i64 n, AV.sl (some (0, 0)) l.length 0 false, AV.ptr (some (1, 0)), int i64 x, int i64 f, int i64 (i64.wrap (i + 1))], (hFND0 l m x f i n o k C)))
 else none)))
 else none))
 else (if (2 * (k + 1) + 200) * 16 ≤ 281474976710656 ∧ some 2 = some 2 ∧ k + 1 ≤ 70368744177664 then
 (if o + k * 2 ≤ C.length then
 (if 0 = 0 ∧ o + k * 2 = C.length ∧ (0 < 1 ∨ o = 0) ∧ 2 = 2 ∧ [int i64 i, AV.bool true].all AV.isCell = true then
 (if (!true == decide (i64.wrap (x - f) < m)) = true then
 none
 else (if (i64.wrap (intV (some (int i64 (i64.wrap (intV (some (int i64 x)) + 1)))) - 1) != x) = false then
 none
 else none))
 else none) else none) else none))
 else none) else none) := by
  kernel_rfl

noncomputable def hFNE0 (l : List Int) (m x f i : Int) (n : Int) (o k : Nat) (C : List AV) : AHeap := [cells (List.map (int i64) l) 1 Md.far none, cells [int i64 m, int i64 x, AV.sl (some (2, o)) k 0 false] 3 Md.own none, ABlk.cells C 2 Md.own none, cells [int i64 i] 1 Md.own none]
noncomputable def hFNE1 (l : List Int) (m x f i : Int) (n : Int) (o k : Nat) (C : List AV) : AHeap := []
theorem nfFNE (l : List Int) (m x f i : Int) (n : Int) (o k : Nat) (C : List AV) :
 qround Try.prog tFN 100 5 [(51, .bool true), (76, .bool false), (78, .bool false), (85, .bool true), (91, .bool false), (133, .bool false)] noT LFN mFN (vFN m n l x f i) (hFN l m x o k C) =
 (if decide (i < n) = true then
 (if cdec (RIxib [AV.sl (some (2, o)) k 0 false, AV.fn (Fn.func 38) [AV.ptr (some (3, 0))]] (hFNE0 l m x f i n o k C) (int i64 (-1)) (hFNE1 l m x f i n o k C)) = true then
 (if decide ((k : Int) ≥ intV (some (int i64 m))) = true then
 (if (!false == decide (i64.wrap (x - f) < m)) = true then
 none
 else (if decide (i < (l.length : Int)) = true then
 (if 0 ≤ i ∧ i < (l.length : Int) then
 (if isIntV i64 (List.map (int i64) l)[0 + i.toNat * 1]? = true then
 (if ((intV (List.map (int i64) l)[0 + i.toNat * 1]?).tmod 2 == 0) = false then
 (if (i64.wrap (intV (some (int i64 x)) - (k : Int)) != f) = true then
 none
 else (if (intV (some (int i64 x)) != x) = true then
 none
 else (if ((k : Int) != i64.wrap (x - f)) = false then
 some ((AEx.norm, [int i64 m, int i64 n, AV.sl (some (0, 0)) l.length 0 false, AV.ptr (some (1, 0)), int i64 x, int i64 f, int i64 (i64.wrap (i + 1))], (hFNE0 l m x f i n o k C)))
 else none)))
 else none) else none) else none) else none))
 else (if (2 * (k + 1) + 200) * 16 ≤ 281474976710656 ∧ some 2 = some 2 ∧ k + 1 ≤ 70368744177664 then
 (if o + k * 2 ≤ C.length then
 (if 0 = 0 ∧ o + k * 2 = C.length ∧ (0 < 1 ∨ o = 0) ∧ 2 = 2 ∧ [int i64 i, AV.bool true].all AV.isCell = true then
 (if (!true == decide (i64.wrap (x - f) < m)) = true then
 none
 else (if (i64.wrap (intV (some (int i64 (i64.wrap (intV (some (int i64 x)) + 1)))) - 1) != x) = false then
 none
 else none))
 else none) else none) else none))
 else none) else none) := by
  kernel_rfl

noncomputable def hFNF0 (l : List Int) (m x f i : Int) (n : Int) (o k : Nat) (C : List AV) : AHeap := [cells (List.map (int i64) l) 1 Md.far none, cells [int i64 m, int i64 x, AV.sl (some (2, o)) k 0 false] 3 Md.own none, ABlk.cells C 2 Md.own none, cells [int i64 i] 1 Md.own none]
noncomputable def hFNF1 (l : List Int) (m x f i : Int) (n : Int) (o k : Nat) (C : List AV) : AHeap := []
noncomputable def hFNF2 (l : List Int) (m x f i : Int) (n : Int) (o k : Nat) (C : List AV) : AHeap := [cells (List.map (int i64) l) 1 Md.far none, cells [int i64 m, int i64 x, AV.sl (some (2, o + 2)) (k - 1) (roomOf k 0 1 true k false) false] 3 Md.own none, ABlk.cells C 2 Md.own none, cells [int i64 i] 1 Md.own none, cells (putCells [int i64 0, AV.bool false] 0 (List.take 2 (List.drop (o + 0) C))) 2 Md.own none]
theorem nfFNF (l : List Int) (m x f i : Int) (n : Int) (o k : Nat) (C : List AV) :
 qround Try.prog tFN 100 5 [(51, .bool true), (76, .bool false), (78, .bool false), (85, .bool true), (91, .bool true), (112, .bool false), (113, .bool true), (133, .bool false)] noT LFN mFN (vFN m n l x f i) (hFN l m x o k C) =
 (if decide (i < n) = true then
 (if cdec (RIxib [AV.sl (some (2, o)) k 0 false, AV.fn (Fn.func 38) [AV.ptr (some (3, 0))]] (hFNF0 l m x f i n o k C) (int i64 (-1)) (hFNF1 l m x f i n o k C)) = true then
 (if decide ((k : Int) ≥ intV (some (int i64 m))) = true then
 (if (!false == decide (i64.wrap (x - f) < m)) = true then
 none
 else (if decide (i < (l.length : Int)) = true then
 (if 0 ≤ i ∧ i < (l.length : Int) then
 (if isIntV i64 (List.map (int i64) l)[0 + i.toNat * 1]? = true then
 (if ((intV (List.map (int i64) l)[0 + i.toNat * 1]?).tmod 2 == 0) = true then
 (if ((k : Int) == 0) = true then
 (if (!false == decide (f < x)) = true then
 none
 else none)
 else (if Int.ofNat 0 ≤ Int.ofNat 0 ∧ 0 < (k : Int) then
 (if o + 0 + 2 ≤ C.length then
 (if (List.take 2 (List.drop (o + 0) C)).length = 2 then
 (if 0 + (List.take 2 (List.drop (o + 0) C)).length ≤ 2 ∧ (List.take 2 (List.drop (o + 0) C)).all AV.isCell = true then
 (if Int.ofNat 0 ≤ Int.ofNat 1 ∧ 1 ≤ (k : Int) then
 (if isIntV i64 (putCells [int i64 0, AV.bool false] 0 (List.take 2 (List.drop (o + 0) C)))[0]? = true then
 (if isBoolV (putCells [int i64 0, AV.bool false] 0 (List.take 2 (List.drop (o + 0) C)))[1]? = true then
 (if (!true == decide (f < x)) = true then
 none
 else (if (i64.wrap (intV (some (int i64 x)) - (k : Int)) != f) = false then
 (if (i64.wrap (intV (some (int i64 x)) - (((k - 1) : Nat) : Int)) != i64.wrap (f + 1)) = true then
 none
 else (if (intV (some (int i64 x)) != x) = true then
 none
 else (if ((((k - 1) : Nat) : Int) != i64.wrap (x - i64.wrap (f + 1))) = false then
 some ((AEx.norm, [int i64 m, int i64 n, AV.sl (some (0, 0)) l.length 0 false, AV.ptr (some (1, 0)), int i64 x, int i64 (i64.wrap (f + 1)), int i64 (i64.wrap (i + 1))], (hFNF2 l m x f i n o k C)))
 else none)))
 else none))
 else none) else none) else none) else none) else none) else none) else none))
 else none) else none) else none) else none))
 else (if (2 * (k + 1) + 200) * 16 ≤ 281474976710656 ∧ some 2 = some 2 ∧ k + 1 ≤ 70368744177664 then
 (if o + k * 2 ≤ C.length then
 (if 0 = 0 ∧ o + k * 2 = C.length ∧ (0 < 1 ∨ o = 0) ∧ 2 = 2 ∧ [int i64 i, AV.bool true].all AV.isCell = true then
 (if (!true == decide (i64.wrap (x - f) < m)) = true then
 none
 else (if (i64.wrap (intV (some (int i64 (i64.wrap (intV (some (int i64 x)) + 1)))) - 1) != x) = false then
 none
 else none))
 else none) else none) else none))
 else none) else none) := by
  kernel_rfl

noncomputable def hFNs0 (l : List Int) (m x f i : Int) (n : Int) (o k : Nat) (C : List AV) : AHeap := [cells (List.map (int i64) l) 1 Md.far none, cells [int i64 m, int i64 x, AV.sl (some (2, o)) k 0 false] 3 Md.own none, ABlk.cells C 2 Md.own none]
theorem nfFNs (l : List Int) (m x f i : Int) (n : Int) (o k : Nat) (C : List AV) :
 qround Try.prog tFN 100 5 [(51, .bool false)] noT LFN mFN (vFN m n l x f i) (hFN l m x o k C) =
 (if decide (i < n) = false then
 some ((AEx.exit 0, [int i64 m, int i64 n, AV.sl (some (0, 0)) l.length 0 false, AV.ptr (some (1, 0)), int i64 x, int i64 f, int i64 i], (hFNs0 l m x f i n o k C)))
 else none) := by
  kernel_rfl

theorem nfFNl {R : Type} (l : List Int) (m n : Int) (K : AV → Option R) :
 qrun Try.prog tFN 100 5 [(36, .bool true)] [] 4 [.int .i64 m, .int .i64 n, .sl (some (0, 0)) l.length 0 false] [farI l] (fun v _ => K v) =
 (if decide (m < 1) = true then
 K (AV.bool true)
 else (if decide (m > 64) = true then
 K (AV.bool true)
 else (if decide (n < 0) = true then
 K (AV.bool true)
 else (if decide (n > 100) = true then
 K (AV.bool true)
 else (if decide ((l.length : Int) > 50) = true then
 K (AV.bool true)
 else none))))) := by
  kernel_rfl

noncomputable def hFNm0 (l : List Int) (m n x f : Int) (o k : Nat) (C : List AV) (q : Prop) : AHeap := [cells (List.map (int i64) l) 1 Md.far none, cells [int i64 m, int i64 0, AV.sl none 0 0 true] 3 Md.own none]
theorem nfFNm {R : Type} (l : List Int) (m n x f : Int) (o k : Nat) (C : List AV) (q : Prop) (K : AV → Option R) :
 qrun Try.prog tFN 100 5 [(36, .bool false), (48, .bool false)] [(8, fixC q mFN (vFN m n l 0 0 0) [farI l, .cells [.int .i64 m, .int .i64 0, .sl none 0 0 true] 3 .own none] (.exit 0) (vFN m n l x f n) (hFN l m x o k C))] 4 [.int .i64 m, .int .i64 n, .sl (some (0, 0)) l.length 0 false] [farI l] (fun v _ => K v) =
 (if decide (m < 1) = true then
 none
 else (if decide (m > 64) = true then
 none
 else (if decide (n < 0) = true then
 none
 else (if decide (n > 100) = true then
 none
 else (if decide ((l.length : Int) > 50) = false then
 (if decide (m < 1) = true then
 none
 else (if decide (m > 256) = true then
 none
 else (if cdec (q ∧ [int i64 m, int i64 n, AV.sl (some (0, 0)) l.length 0 false, AV.ptr (some (1, 0)), int i64 0, int i64 0, int i64 0] = [int i64 m, int i64 n, AV.sl (some (0, 0)) l.length 0 false, AV.ptr (some (1, 0)), int i64 0, int i64 0, int i64 0] ∧ (hFNm0 l m n x f o k C q) = (hFNm0 l m n x f o k C q)) = true then
 K (AV.bool true)
 else none)))
 else none))))) := by
  kernel_rfl


end Go.Proofs.Ytdildbadafdbgaa.L
