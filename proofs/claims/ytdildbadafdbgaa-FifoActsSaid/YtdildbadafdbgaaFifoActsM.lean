/- FifoActs' rows: the loops within. -/
import Derived.Test.YtdildbadafdbgaaFifoActsN
set_option autoImplicit false
set_option maxRecDepth 100000
set_option linter.unusedVariables false
namespace Go.Proofs.Ytdildbadafdbgaa.L
open Go Go.Abs
open Go.IntKind
open Go.Abs.AV (int)
open Go.Abs.ABlk (cells)

def vFA1 (m : Int) (l : List Int) (ow n : Nat) (x i : Int) (k : List UInt8) (had j : Int) : List AV := [.int .i64 m, .sl (some (0, 0)) l.length 0 false, .ptr (some (1, 0)), wsl 3 ow n, .int .i64 x, .int .i64 i, .str k, .int .i64 had, .int .i64 j]
def hFA1 (B0 B1 B2 B4 : ABlk) (D : List AV) : AHeap := [B0, B1, B2, .cells D 3 .own none, B4]
def vFA2 (m : Int) (l : List Int) (w ow n : Nat) (x i : Int) (kx nx ny : Nat) (j : Int) : List AV := [.int .i64 m, .sl (some (0, 0)) l.length 0 false, .ptr (some (1, 0)), wsl w ow n, .int .i64 x, .int .i64 i, .sl (some (kx, 0)) nx 0 false, .sl (some (kx + 1, 0)) ny 0 false, .int .i64 j]
def hFA2a (B0 B4 B5 B7 : ABlk) (m x : Int) (o n : Nat) (C D I : List AV) : AHeap := [B0, .cells [.int .i64 m, .int .i64 x, .sl (some (2, o)) n 0 false] 3 .own none, .cells C 2 .own none, .cells D 3 .own none, B4, B5, .cells I 3 .own none, B7]
def hFA2b (B0 B2 B3 B4 B5 B6 B8 B9 B10 B13 : ABlk) (m x : Int) (o n : Nat) (C D I : List AV) : AHeap := [B0, .cells [.int .i64 m, .int .i64 x, .sl (some (7, o)) n 0 false] 3 .own none, B2, B3, B4, B5, B6, .cells C 2 .own (some 2), B8, B9, B10, .cells D 3 .own (some 9), .cells I 3 .own none, B13]

noncomputable def hFBy0 (m x i had j : Int) (l : List Int) (ow n : Nat) (k : List UInt8) (B0 B1 B2 B4 : ABlk) (D : List AV) : AHeap := [B0, B1, B2, ABlk.cells D 3 Md.own none, B4]
theorem nfFBy (m x i had j : Int) (l : List Int) (ow n : Nat) (k : List UInt8) (B0 B1 B2 B4 : ABlk) (D : List AV) :
 qround Try.prog tFA 100 5 [(125, .bool true), (134, .bool true)] noT FA1 mFA1 (vFA1 m l ow n x i k had j) (hFA1 B0 B1 B2 B4 D) =
 (if decide (j < (n : Int)) = true then
 (if 0 ≤ j ∧ j < (n : Int) then
 (if isStrV D[ow + j.toNat * 3 + 0]? = true then
 (if decide (strV D[ow + j.toNat * 3 + 0]? = k) = true then
 some ((AEx.norm, [int i64 m, AV.sl (some (0, 0)) l.length 0 false, AV.ptr (some (1, 0)), AV.sl (some (3, ow)) n 0 false, int i64 x, int i64 i, AV.str k, int i64 j, int i64 (i64.wrap (j + 1))], (hFBy0 m x i had j l ow n k B0 B1 B2 B4 D)))
 else none) else none) else none) else none) := by
  kernel_rfl

noncomputable def hFBn0 (m x i had j : Int) (l : List Int) (ow n : Nat) (k : List UInt8) (B0 B1 B2 B4 : ABlk) (D : List AV) : AHeap := [B0, B1, B2, ABlk.cells D 3 Md.own none, B4]
theorem nfFBn (m x i had j : Int) (l : List Int) (ow n : Nat) (k : List UInt8) (B0 B1 B2 B4 : ABlk) (D : List AV) :
 qround Try.prog tFA 100 5 [(125, .bool true), (134, .bool false)] noT FA1 mFA1 (vFA1 m l ow n x i k had j) (hFA1 B0 B1 B2 B4 D) =
 (if decide (j < (n : Int)) = true then
 (if 0 ≤ j ∧ j < (n : Int) then
 (if isStrV D[ow + j.toNat * 3 + 0]? = true then
 (if decide (strV D[ow + j.toNat * 3 + 0]? = k) = false then
 some ((AEx.norm, [int i64 m, AV.sl (some (0, 0)) l.length 0 false, AV.ptr (some (1, 0)), AV.sl (some (3, ow)) n 0 false, int i64 x, int i64 i, AV.str k, int i64 had, int i64 (i64.wrap (j + 1))], (hFBn0 m x i had j l ow n k B0 B1 B2 B4 D)))
 else none) else none) else none) else none) := by
  kernel_rfl

noncomputable def hFBs0 (m x i had j : Int) (l : List Int) (ow n : Nat) (k : List UInt8) (B0 B1 B2 B4 : ABlk) (D : List AV) : AHeap := [B0, B1, B2, ABlk.cells D 3 Md.own none, B4]
theorem nfFBs (m x i had j : Int) (l : List Int) (ow n : Nat) (k : List UInt8) (B0 B1 B2 B4 : ABlk) (D : List AV) :
 qround Try.prog tFA 100 5 [(125, .bool false)] noT FA1 mFA1 (vFA1 m l ow n x i k had j) (hFA1 B0 B1 B2 B4 D) =
 (if decide (j < (n : Int)) = false then
 some ((AEx.exit 2, [int i64 m, AV.sl (some (0, 0)) l.length 0 false, AV.ptr (some (1, 0)), AV.sl (some (3, ow)) n 0 false, int i64 x, int i64 i, AV.str k, int i64 had, int i64 j], (hFBs0 m x i had j l ow n k B0 B1 B2 B4 D)))
 else none) := by
  kernel_rfl

noncomputable def hFCa0 (m x x2 i j : Int) (l : List Int) (o ow n nx ny : Nat) (B0 B4 B5 B7 : ABlk) (C D I : List AV) : AHeap := [B0, cells [int i64 m, int i64 x, AV.sl (some (2, o)) n 0 false] 3 Md.own none, ABlk.cells C 2 Md.own none, ABlk.cells D 3 Md.own none, B4, B5, ABlk.cells I 3 Md.own none, B7, cells [AV.str (strV D[ow + j.toNat * 3 + 0]?)] 1 Md.own none]
noncomputable def hFCa1 (m x x2 i j : Int) (l : List Int) (o ow n nx ny : Nat) (B0 B4 B5 B7 : ABlk) (C D I : List AV) : AHeap := []
theorem nfFCa (m x x2 i j : Int) (l : List Int) (o ow n nx ny : Nat) (B0 B4 B5 B7 : ABlk) (C D I : List AV) :
 qround Try.prog tFA 100 5 [(228, .bool true), (277, .bool false)] noT FA2 mFA2 (vFA2 m l 3 ow n x2 i 6 nx ny j) (hFA2a B0 B4 B5 B7 m x o n C D I) =
 (if decide (j < (n : Int)) = true then
 (if 0 ≤ j ∧ j < (n : Int) then
 (if isStrV D[ow + j.toNat * 3 + 0]? = true then
 (if cdec (RIxsi [AV.sl (some (2, o)) n 0 false, AV.fn (Fn.func 40) [AV.ptr (some (8, 0))]] (hFCa0 m x x2 i j l o ow n nx ny B0 B4 B5 B7 C D I) (int i64 (intC RIxsi [AV.sl (some (2, o)) n 0 false, AV.fn (Fn.func 40) [AV.ptr (some (8, 0))]] (hFCa0 m x x2 i j l o ow n nx ny B0 B4 B5 B7 C D I))) (hFCa1 m x x2 i j l o ow n nx ny B0 B4 B5 B7 C D I)) = true then
 (if decide (intC RIxsi [AV.sl (some (2, o)) n 0 false, AV.fn (Fn.func 40) [AV.ptr (some (8, 0))]] (hFCa0 m x x2 i j l o ow n nx ny B0 B4 B5 B7 C D I) < 0) = true then
 (if 0 ≤ j ∧ j < (nx : Int) then
 (if isStrV I[0 + j.toNat * 3 + 0]? = true then
 (if 0 ≤ j ∧ j < (n : Int) then
 (if isStrV D[ow + j.toNat * 3 + 0]? = true then
 (if (!decide (strV I[0 + j.toNat * 3 + 0]? = strV D[ow + j.toNat * 3 + 0]?)) = true then
 none
 else (if 0 ≤ j ∧ j < (nx : Int) then
 (if isIntV i64 I[0 + j.toNat * 3 + 1]? = true then
 (if 0 ≤ j ∧ j < (n : Int) then
 (if isIntV i64 D[ow + j.toNat * 3 + 1]? = true then
 (if (intV I[0 + j.toNat * 3 + 1]? != intV D[ow + j.toNat * 3 + 1]?) = true then
 none
 else none) else none) else none) else none) else none))
 else none) else none) else none) else none)
 else (if 0 ≤ intC RIxsi [AV.sl (some (2, o)) n 0 false, AV.fn (Fn.func 40) [AV.ptr (some (8, 0))]] (hFCa0 m x x2 i j l o ow n nx ny B0 B4 B5 B7 C D I) ∧ intC RIxsi [AV.sl (some (2, o)) n 0 false, AV.fn (Fn.func 40) [AV.ptr (some (8, 0))]] (hFCa0 m x x2 i j l o ow n nx ny B0 B4 B5 B7 C D I) < (n : Int) then
 (if isIntV i64 C[o + (intC RIxsi [AV.sl (some (2, o)) n 0 false, AV.fn (Fn.func 40) [AV.ptr (some (8, 0))]] (hFCa0 m x x2 i j l o ow n nx ny B0 B4 B5 B7 C D I)).toNat * 2 + 1]? = true then
 (if 0 ≤ j ∧ j < (nx : Int) then
 (if isStrV I[0 + j.toNat * 3 + 0]? = true then
 (if 0 ≤ j ∧ j < (n : Int) then
 (if isStrV D[ow + j.toNat * 3 + 0]? = true then
 (if (!decide (strV I[0 + j.toNat * 3 + 0]? = strV D[ow + j.toNat * 3 + 0]?)) = true then
 none
 else (if 0 ≤ j ∧ j < (nx : Int) then
 (if isIntV i64 I[0 + j.toNat * 3 + 1]? = true then
 (if 0 ≤ j ∧ j < (n : Int) then
 (if isIntV i64 D[ow + j.toNat * 3 + 1]? = true then
 (if (intV I[0 + j.toNat * 3 + 1]? != intV D[ow + j.toNat * 3 + 1]?) = true then
 none
 else (if 0 ≤ j ∧ j < (n : Int) then
 (if isIntV i64 D[ow + j.toNat * 3 + 1]? = true then
 (if (intV C[o + (intC RIxsi [AV.sl (some (2, o)) n 0 false, AV.fn (Fn.func 40) [AV.ptr (some (8, 0))]] (hFCa0 m x x2 i j l o ow n nx ny B0 B4 B5 B7 C D I)).toNat * 2 + 1]? != intV D[ow + j.toNat * 3 + 1]?) = false then
 some ((AEx.norm, [int i64 m, AV.sl (some (0, 0)) l.length 0 false, AV.ptr (some (1, 0)), AV.sl (some (3, ow)) n 0 false, int i64 x2, int i64 i, AV.sl (some (6, 0)) nx 0 false, AV.sl (some (7, 0)) ny 0 false, int i64 (i64.wrap (j + 1))], (hFCa0 m x x2 i j l o ow n nx ny B0 B4 B5 B7 C D I)))
 else none) else none) else none))
 else none) else none) else none) else none))
 else none) else none) else none) else none) else none) else none))
 else none) else none) else none) else none) := by
  kernel_rfl

noncomputable def hFCas0 (m x x2 i j : Int) (l : List Int) (o ow n nx ny : Nat) (B0 B4 B5 B7 : ABlk) (C D I : List AV) : AHeap := [B0, cells [int i64 m, int i64 x, AV.sl (some (2, o)) n 0 false] 3 Md.own none, ABlk.cells C 2 Md.own none, ABlk.cells D 3 Md.own none, B4, B5, ABlk.cells I 3 Md.own none, B7]
theorem nfFCas (m x x2 i j : Int) (l : List Int) (o ow n nx ny : Nat) (B0 B4 B5 B7 : ABlk) (C D I : List AV) :
 qround Try.prog tFA 100 5 [(228, .bool false)] noT FA2 mFA2 (vFA2 m l 3 ow n x2 i 6 nx ny j) (hFA2a B0 B4 B5 B7 m x o n C D I) =
 (if decide (j < (n : Int)) = false then
 some ((AEx.exit 5, [int i64 m, AV.sl (some (0, 0)) l.length 0 false, AV.ptr (some (1, 0)), AV.sl (some (3, ow)) n 0 false, int i64 x2, int i64 i, AV.sl (some (6, 0)) nx 0 false, AV.sl (some (7, 0)) ny 0 false, int i64 j], (hFCas0 m x x2 i j l o ow n nx ny B0 B4 B5 B7 C D I)))
 else none) := by
  kernel_rfl

noncomputable def hFCb0 (m x x2 i j : Int) (l : List Int) (o ow n nx ny : Nat) (B0 B2 B3 B4 B5 B6 B8 B9 B10 B13 : ABlk) (C D I : List AV) : AHeap := [B0, cells [int i64 m, int i64 x, AV.sl (some (7, o)) n 0 false] 3 Md.own none, B2, B3, B4, B5, B6, ABlk.cells C 2 Md.own (some 2), B8, B9, B10, ABlk.cells D 3 Md.own (some 9), ABlk.cells I 3 Md.own none, B13, cells [AV.str (strV D[ow + j.toNat * 3 + 0]?)] 1 Md.own none]
noncomputable def hFCb1 (m x x2 i j : Int) (l : List Int) (o ow n nx ny : Nat) (B0 B2 B3 B4 B5 B6 B8 B9 B10 B13 : ABlk) (C D I : List AV) : AHeap := []
theorem nfFCb (m x x2 i j : Int) (l : List Int) (o ow n nx ny : Nat) (B0 B2 B3 B4 B5 B6 B8 B9 B10 B13 : ABlk) (C D I : List AV) :
 qround Try.prog tFA 100 5 [(228, .bool true), (277, .bool false)] noT FA2 mFA2 (vFA2 m l 11 ow n x2 i 12 nx ny j) (hFA2b B0 B2 B3 B4 B5 B6 B8 B9 B10 B13 m x o n C D I) =
 (if decide (j < (n : Int)) = true then
 (if 0 ≤ j ∧ j < (n : Int) then
 (if isStrV D[ow + j.toNat * 3 + 0]? = true then
 (if cdec (RIxsi [AV.sl (some (7, o)) n 0 false, AV.fn (Fn.func 40) [AV.ptr (some (14, 0))]] (hFCb0 m x x2 i j l o ow n nx ny B0 B2 B3 B4 B5 B6 B8 B9 B10 B13 C D I) (int i64 (intC RIxsi [AV.sl (some (7, o)) n 0 false, AV.fn (Fn.func 40) [AV.ptr (some (14, 0))]] (hFCb0 m x x2 i j l o ow n nx ny B0 B2 B3 B4 B5 B6 B8 B9 B10 B13 C D I))) (hFCb1 m x x2 i j l o ow n nx ny B0 B2 B3 B4 B5 B6 B8 B9 B10 B13 C D I)) = true then
 (if decide (intC RIxsi [AV.sl (some (7, o)) n 0 false, AV.fn (Fn.func 40) [AV.ptr (some (14, 0))]] (hFCb0 m x x2 i j l o ow n nx ny B0 B2 B3 B4 B5 B6 B8 B9 B10 B13 C D I) < 0) = true then
 (if 0 ≤ j ∧ j < (nx : Int) then
 (if isStrV I[0 + j.toNat * 3 + 0]? = true then
 (if 0 ≤ j ∧ j < (n : Int) then
 (if isStrV D[ow + j.toNat * 3 + 0]? = true then
 (if (!decide (strV I[0 + j.toNat * 3 + 0]? = strV D[ow + j.toNat * 3 + 0]?)) = true then
 none
 else (if 0 ≤ j ∧ j < (nx : Int) then
 (if isIntV i64 I[0 + j.toNat * 3 + 1]? = true then
 (if 0 ≤ j ∧ j < (n : Int) then
 (if isIntV i64 D[ow + j.toNat * 3 + 1]? = true then
 (if (intV I[0 + j.toNat * 3 + 1]? != intV D[ow + j.toNat * 3 + 1]?) = true then
 none
 else none) else none) else none) else none) else none))
 else none) else none) else none) else none)
 else (if 0 ≤ intC RIxsi [AV.sl (some (7, o)) n 0 false, AV.fn (Fn.func 40) [AV.ptr (some (14, 0))]] (hFCb0 m x x2 i j l o ow n nx ny B0 B2 B3 B4 B5 B6 B8 B9 B10 B13 C D I) ∧ intC RIxsi [AV.sl (some (7, o)) n 0 false, AV.fn (Fn.func 40) [AV.ptr (some (14, 0))]] (hFCb0 m x x2 i j l o ow n nx ny B0 B2 B3 B4 B5 B6 B8 B9 B10 B13 C D I) < (n : Int) then
 (if isIntV i64 C[o + (intC RIxsi [AV.sl (some (7, o)) n 0 false, AV.fn (Fn.func 40) [AV.ptr (some (14, 0))]] (hFCb0 m x x2 i j l o ow n nx ny B0 B2 B3 B4 B5 B6 B8 B9 B10 B13 C D I)).toNat * 2 + 1]? = true then
 (if 0 ≤ j ∧ j < (nx : Int) then
 (if isStrV I[0 + j.toNat * 3 + 0]? = true then
 (if 0 ≤ j ∧ j < (n : Int) then
 (if isStrV D[ow + j.toNat * 3 + 0]? = true then
 (if (!decide (strV I[0 + j.toNat * 3 + 0]? = strV D[ow + j.toNat * 3 + 0]?)) = true then
 none
 else (if 0 ≤ j ∧ j < (nx : Int) then
 (if isIntV i64 I[0 + j.toNat * 3 + 1]? = true then
 (if 0 ≤ j ∧ j < (n : Int) then
 (if isIntV i64 D[ow + j.toNat * 3 + 1]? = true then
 (if (intV I[0 + j.toNat * 3 + 1]? != intV D[ow + j.toNat * 3 + 1]?) = true then
 none
 else (if 0 ≤ j ∧ j < (n : Int) then
 (if isIntV i64 D[ow + j.toNat * 3 + 1]? = true then
 (if (intV C[o + (intC RIxsi [AV.sl (some (7, o)) n 0 false, AV.fn (Fn.func 40) [AV.ptr (some (14, 0))]] (hFCb0 m x x2 i j l o ow n nx ny B0 B2 B3 B4 B5 B6 B8 B9 B10 B13 C D I)).toNat * 2 + 1]? != intV D[ow + j.toNat * 3 + 1]?) = false then
 some ((AEx.norm, [int i64 m, AV.sl (some (0, 0)) l.length 0 false, AV.ptr (some (1, 0)), AV.sl (some (11, ow)) n 0 false, int i64 x2, int i64 i, AV.sl (some (12, 0)) nx 0 false, AV.sl (some (13, 0)) ny 0 false, int i64 (i64.wrap (j + 1))], (hFCb0 m x x2 i j l o ow n nx ny B0 B2 B3 B4 B5 B6 B8 B9 B10 B13 C D I)))
 else none) else none) else none))
 else none) else none) else none) else none))
 else none) else none) else none) else none) else none) else none))
 else none) else none) else none) else none) := by
  kernel_rfl

noncomputable def hFCbs0 (m x x2 i j : Int) (l : List Int) (o ow n nx ny : Nat) (B0 B2 B3 B4 B5 B6 B8 B9 B10 B13 : ABlk) (C D I : List AV) : AHeap := [B0, cells [int i64 m, int i64 x, AV.sl (some (7, o)) n 0 false] 3 Md.own none, B2, B3, B4, B5, B6, ABlk.cells C 2 Md.own (some 2), B8, B9, B10, ABlk.cells D 3 Md.own (some 9), ABlk.cells I 3 Md.own none, B13]
theorem nfFCbs (m x x2 i j : Int) (l : List Int) (o ow n nx ny : Nat) (B0 B2 B3 B4 B5 B6 B8 B9 B10 B13 : ABlk) (C D I : List AV) :
 qround Try.prog tFA 100 5 [(228, .bool false)] noT FA2 mFA2 (vFA2 m l 11 ow n x2 i 12 nx ny j) (hFA2b B0 B2 B3 B4 B5 B6 B8 B9 B10 B13 m x o n C D I) =
 (if decide (j < (n : Int)) = false then
 some ((AEx.exit 5, [int i64 m, AV.sl (some (0, 0)) l.length 0 false, AV.ptr (some (1, 0)), AV.sl (some (11, ow)) n 0 false, int i64 x2, int i64 i, AV.sl (some (12, 0)) nx 0 false, AV.sl (some (13, 0)) ny 0 false, int i64 j], (hFCbs0 m x x2 i j l o ow n nx ny B0 B2 B3 B4 B5 B6 B8 B9 B10 B13 C D I)))
 else none) := by
  kernel_rfl

theorem nfFCzs (m x2 i j : Int) (l : List Int) (ow n nx ny : Nat) (h : AHeap) :
 qround Try.prog tFA 100 5 [(228, .bool false)] noT FA2 mFA2 (vFA2 m l 3 ow n x2 i 5 nx ny j) h =
 (if decide (j < (n : Int)) = false then
 some ((AEx.exit 5, [int i64 m, AV.sl (some (0, 0)) l.length 0 false, AV.ptr (some (1, 0)), AV.sl (some (3, ow)) n 0 false, int i64 x2, int i64 i, AV.sl (some (5, 0)) nx 0 false, AV.sl (some (6, 0)) ny 0 false, int i64 j], h))
 else none) := by
  kernel_rfl


end Go.Proofs.Ytdildbadafdbgaa.L
