/- HealthMany: its rows. -/
import Derived.Test.YtpghomcohejejaaHlK
import Derived.Test.YtpghomcohejejaaAwake23
set_option autoImplicit false
set_option maxRecDepth 100000
set_option linter.unusedVariables false
set_option linter.unusedSimpArgs false
namespace Go.Proofs.Ytpghomcohejejaa.L
open Go Go.Abs
open Go.IntKind
open Go.Abs.AV (int)
open Go.Abs.ABlk (cells)

noncomputable def tHM : Tbl := [(10, entF eRound), (9, entF eDipO), (11, entF eTel), (16, entF eAll), (13, entF eCnt), (15, entF eDwn), (7, entF eAwake)]
theorem tHMOk : ∀ f E, tHM.find f = some E → SoundE Try.prog f E := find_cons sRound (find_cons sDipO (find_cons sTel (find_cons sAll (find_cons sCnt (find_cons sDwn (find_cons sAwake (find_nil _)))))))
noncomputable abbrev HL1 := loopIn (bodyOf Try.prog 5) 0
noncomputable abbrev HL2 := loopIn (bodyOf Try.prog 5) 1
def mHM1 : List Bool := List.replicate 2 true ++ List.replicate 3 false ++ List.replicate 1 true ++ List.replicate 1 false ++ List.replicate 2 true ++ List.replicate 107 false
def mHM2 : List Bool := List.replicate 1 true ++ List.replicate 4 false ++ List.replicate 1 true ++ List.replicate 1 false ++ List.replicate 1 true ++ List.replicate 4 false ++ List.replicate 2 true ++ List.replicate 102 false
def vHM1 (f : Int) (n : Nat) (i : Int) : List AV := [.int .i64 f, .sl (some (0, 0)) n 0 false, .ptr (some (2, 0)), .ptr (some (3, 0)), .int .i64 i]
def vHM2 (f : Int) (s k : Int) : List AV := [.int .i64 f, .ptr (some (2, 0)), .ptr (some (3, 0)), .int .i64 s, .int .i64 k]
def hHMz (f : Int) (C N : List AV) : AHeap := [.cells C 1 .far none, .mp [] 0 false, .cells [.int .i64 f, .map (some 1), .sl none 0 0 true] 3 .own none, .cells N 8 .own none]
def hHM (f : Int) (C : List AV) (es : List (AV × AV × Nat)) (c k z : Nat) (N O : List AV) : AHeap := [.cells C 1 .far none, .mp es c true, .cells [.int .i64 f, .map (some 1), .sl (some (4, 0)) k z false] 3 .own none, .cells N 8 .own none, .cells O 18 .own none]
def n8z : List AV := [.int .i64 0, .int .i64 0, .int .i64 0, .int .i64 0, .int .i64 0, .int .i64 0, .int .i64 0, .int .i64 0]
noncomputable def hHMl0 (f : Int) (n : Nat) (C : List AV) : AHeap := [ABlk.cells C 1 Md.far none]
theorem nfHMl {R : Type} (f : Int) (n : Nat) (C : List AV) (K : AV → AHeap → Option R) :
 qrun Try.prog tHM 100 4 [(24, .bool true)] [] 5 [.int .i64 f, .sl (some (0, 0)) n 0 false] [.cells C 1 .far none] K =
 (if decide (f < 1) = true then
 K (AV.bool true) ((hHMl0 f n C))
 else (if decide (f > 10) = true then
 K (AV.bool true) ((hHMl0 f n C))
 else (if decide ((n : Int) > 80) = true then
 K (AV.bool true) ((hHMl0 f n C))
 else none))) := by
  kernel_rfl

noncomputable def hHM10 (f : Int) (C : List AV) (es : List (AV × AV × Nat)) (c k z : Nat) (N O : List AV) (n : Nat) (i : Int) : AHeap := [ABlk.cells C 1 Md.far none, ABlk.mp (opq (esG (telS (unS f es c z O) (dipOf (opq cellsN false (intV C[0 + i.toNat * 1]? % 8))) false).G)) (opq (telS (unS f es c z O) (dipOf (opq cellsN false (intV C[0 + i.toNat * 1]? % 8))) false).c) true, cells [int i64 f, AV.map (some 1), AV.sl (some (5, 0)) (opq (telS (unS f es c z O) (dipOf (opq cellsN false (intV C[0 + i.toNat * 1]? % 8))) false).l.length) (opq (telS (unS f es c z O) (dipOf (opq cellsN false (intV C[0 + i.toNat * 1]? % 8))) false).z) false] 3 Md.own none, cells (putCells N (0 + (intV C[0 + i.toNat * 1]? % 8).toNat * 1) [int i64 (i64.wrap (intV N[0 + (intV C[0 + i.toNat * 1]? % 8).toNat * 1]? + 1))]) 8 Md.own none, ABlk.dead, cells (opq (rowD (telS (unS f es c z O) (dipOf (opq cellsN false (intV C[0 + i.toNat * 1]? % 8))) false).l (telS (unS f es c z O) (dipOf (opq cellsN false (intV C[0 + i.toNat * 1]? % 8))) false).z)) 18 Md.own none]
theorem nfHM1 (f : Int) (C : List AV) (es : List (AV × AV × Nat)) (c k z : Nat) (N O : List AV) (n : Nat) (i : Int) :
 qround Try.prog tHM 100 4 [(40, .bool true), (70, .bool false)] noT HL1 mHM1 (vHM1 f n i) (hHM f C es c k z N O) =
 (if decide (i < (n : Int)) = true then
 (if 0 ≤ i ∧ i < (n : Int) then
 (if isIntV i64 C[0 + i.toNat * 1]? = true then
 (if 0 ≤ intV C[0 + i.toNat * 1]? % 8 ∧ intV C[0 + i.toNat * 1]? % 8 < 8 then
 (if isIntV i64 N[0 + (intV C[0 + i.toNat * 1]? % 8).toNat * 1]? = true then
 (if 0 ≤ intV C[0 + i.toNat * 1]? % 8 ∧ intV C[0 + i.toNat * 1]? % 8 < 8 then
 (if 0 + (intV C[0 + i.toNat * 1]? % 8).toNat * 1 + [int i64 (i64.wrap (intV N[0 + (intV C[0 + i.toNat * 1]? % 8).toNat * 1]? + 1))].length ≤ N.length ∧ [int i64 (i64.wrap (intV N[0 + (intV C[0 + i.toNat * 1]? % 8).toNat * 1]? + 1))].all AV.isCell = true then
 (if cdec (2 ≠ 1 ∧ 2 ≠ 4 ∧ 1 ≠ 4 ∧ TelOk (unS f es c z O) (dipOf (opq cellsN false (intV C[0 + i.toNat * 1]? % 8))) f es c k z O (opq cellsN false (intV C[0 + i.toNat * 1]? % 8))) = true then
 (if (opq (telE (dipOf (opq cellsN false (intV C[0 + i.toNat * 1]? % 8)))) != 0) = true then
 none
 else (if 0 ≤ intV C[0 + i.toNat * 1]? % 8 ∧ intV C[0 + i.toNat * 1]? % 8 < 8 then
 (if isIntV i64 (putCells N (0 + (intV C[0 + i.toNat * 1]? % 8).toNat * 1) [int i64 (i64.wrap (intV N[0 + (intV C[0 + i.toNat * 1]? % 8).toNat * 1]? + 1))])[0 + (intV C[0 + i.toNat * 1]? % 8).toNat * 1]? = true then
 (if (!opq (telD (unS f es c z O) (dipOf (opq cellsN false (intV C[0 + i.toNat * 1]? % 8))) false) == (intV (putCells N (0 + (intV C[0 + i.toNat * 1]? % 8).toNat * 1) [int i64 (i64.wrap (intV N[0 + (intV C[0 + i.toNat * 1]? % 8).toNat * 1]? + 1))])[0 + (intV C[0 + i.toNat * 1]? % 8).toNat * 1]? == f)) = false then
 some ((AEx.norm, [int i64 f, AV.sl (some (0, 0)) n 0 false, AV.ptr (some (2, 0)), AV.ptr (some (3, 0)), int i64 (i64.wrap (i + 1))], (hHM10 f C es c k z N O n i)))
 else none) else none) else none))
 else none) else none) else none) else none) else none) else none) else none) else none) := by
  kernel_rfl

noncomputable def hHM1s0 (f : Int) (C : List AV) (es : List (AV × AV × Nat)) (c k z : Nat) (N O : List AV) (n : Nat) (i : Int) : AHeap := [ABlk.cells C 1 Md.far none, ABlk.mp es c true, cells [int i64 f, AV.map (some 1), AV.sl (some (4, 0)) k z false] 3 Md.own none, ABlk.cells N 8 Md.own none, ABlk.cells O 18 Md.own none]
theorem nfHM1s (f : Int) (C : List AV) (es : List (AV × AV × Nat)) (c k z : Nat) (N O : List AV) (n : Nat) (i : Int) :
 qround Try.prog tHM 100 4 [(40, .bool false)] noT HL1 mHM1 (vHM1 f n i) (hHM f C es c k z N O) =
 (if decide (i < (n : Int)) = false then
 some ((AEx.exit 0, [int i64 f, AV.sl (some (0, 0)) n 0 false, AV.ptr (some (2, 0)), AV.ptr (some (3, 0)), int i64 i], (hHM1s0 f C es c k z N O n i)))
 else none) := by
  kernel_rfl

noncomputable def hHM2t0 (f : Int) (C : List AV) (es : List (AV × AV × Nat)) (c k z : Nat) (N O : List AV) (s i : Int) : AHeap := [ABlk.cells C 1 Md.far none, ABlk.mp es c true, cells [int i64 f, AV.map (some 1), AV.sl (some (4, 0)) k z false] 3 Md.own none, ABlk.cells N 8 Md.own none, ABlk.cells O 18 Md.own none]
theorem nfHM2t (f : Int) (C : List AV) (es : List (AV × AV × Nat)) (c k z : Nat) (N O : List AV) (s i : Int) :
 qround Try.prog tHM 100 4 [(72, .bool true), (101, .bool false), (105, .bool true)] noT HL2 mHM2 (vHM2 f s i) (hHM f C es c k z N O) =
 (if decide (i < 8) = true then
 (if cdec (2 ≠ 1 ∧ 2 ≠ 4 ∧ 1 ≠ 4 ∧ TelOk (unS f es c z O) (dipOf (opq cellsN false i)) f es c k z O (opq cellsN false i)) = true then
 (if 0 ≤ i ∧ i < 8 then
 (if isIntV i64 N[0 + i.toNat * 1]? = true then
 (if (opq (cntS (unS f es c z O) (dipOf (opq cellsN false i))) != intV N[0 + i.toNat * 1]?) = true then
 none
 else (if cdec (2 ≠ 1 ∧ 2 ≠ 4 ∧ 1 ≠ 4 ∧ TelOk (unS f es c z O) (dipOf (opq cellsN false i)) f es c k z O (opq cellsN false i)) = true then
 (if 0 ≤ i ∧ i < 8 then
 (if isIntV i64 N[0 + i.toNat * 1]? = true then
 (if (!opq (decide ((unS f es c z O).f ≤ cntS (unS f es c z O) (dipOf (opq cellsN false i)))) == decide (intV N[0 + i.toNat * 1]? ≥ f)) = true then
 none
 else (if cdec (2 ≠ 1 ∧ 2 ≠ 4 ∧ 1 ≠ 4 ∧ TelOk (unS f es c z O) (dipOf (opq cellsN true i)) f es c k z O (opq cellsN true i)) = true then
 (if (opq (cntS (unS f es c z O) (dipOf (opq cellsN true i))) != 0) = false then
 (if isIntV i64 N[0 + i.toNat * 1]? = true then
 (if (int i64 (intV N[0 + i.toNat * 1]?)).beq (int i64 (intV N[0 + i.toNat * 1]?)) = true then
 (if isIntV i64 N[0 + i.toNat * 1]? = true then
 (if (int i64 (intV N[0 + i.toNat * 1]?)).beq (int i64 (intV N[0 + i.toNat * 1]?)) = true then
 (if isIntV i64 N[0 + i.toNat * 1]? = true then
 (if (int i64 (intV N[0 + i.toNat * 1]?)).beq (int i64 (intV N[0 + i.toNat * 1]?)) = true then
 (if isIntV i64 N[0 + i.toNat * 1]? = true then
 (if (int i64 (intV N[0 + i.toNat * 1]?)).beq (int i64 (intV N[0 + i.toNat * 1]?)) = true then
 (if 0 ≤ i ∧ i < 8 then
 (if isIntV i64 N[0 + i.toNat * 1]? = true then
 (if decide (intV N[0 + i.toNat * 1]? > 0) = true then
 some ((AEx.norm, [int i64 f, AV.ptr (some (2, 0)), AV.ptr (some (3, 0)), int i64 (i64.wrap (s + 1)), int i64 (i64.wrap (i + 1))], (hHM2t0 f C es c k z N O s i)))
 else none) else none) else none) else none) else none) else none) else none) else none) else none) else none) else none) else none) else none))
 else none) else none) else none))
 else none) else none) else none) else none) := by
  kernel_rfl

noncomputable def hHM2f0 (f : Int) (C : List AV) (es : List (AV × AV × Nat)) (c k z : Nat) (N O : List AV) (s i : Int) : AHeap := [ABlk.cells C 1 Md.far none, ABlk.mp es c true, cells [int i64 f, AV.map (some 1), AV.sl (some (4, 0)) k z false] 3 Md.own none, ABlk.cells N 8 Md.own none, ABlk.cells O 18 Md.own none]
theorem nfHM2f (f : Int) (C : List AV) (es : List (AV × AV × Nat)) (c k z : Nat) (N O : List AV) (s i : Int) :
 qround Try.prog tHM 100 4 [(72, .bool true), (101, .bool false), (105, .bool false)] noT HL2 mHM2 (vHM2 f s i) (hHM f C es c k z N O) =
 (if decide (i < 8) = true then
 (if cdec (2 ≠ 1 ∧ 2 ≠ 4 ∧ 1 ≠ 4 ∧ TelOk (unS f es c z O) (dipOf (opq cellsN false i)) f es c k z O (opq cellsN false i)) = true then
 (if 0 ≤ i ∧ i < 8 then
 (if isIntV i64 N[0 + i.toNat * 1]? = true then
 (if (opq (cntS (unS f es c z O) (dipOf (opq cellsN false i))) != intV N[0 + i.toNat * 1]?) = true then
 none
 else (if cdec (2 ≠ 1 ∧ 2 ≠ 4 ∧ 1 ≠ 4 ∧ TelOk (unS f es c z O) (dipOf (opq cellsN false i)) f es c k z O (opq cellsN false i)) = true then
 (if 0 ≤ i ∧ i < 8 then
 (if isIntV i64 N[0 + i.toNat * 1]? = true then
 (if (!opq (decide ((unS f es c z O).f ≤ cntS (unS f es c z O) (dipOf (opq cellsN false i)))) == decide (intV N[0 + i.toNat * 1]? ≥ f)) = true then
 none
 else (if cdec (2 ≠ 1 ∧ 2 ≠ 4 ∧ 1 ≠ 4 ∧ TelOk (unS f es c z O) (dipOf (opq cellsN true i)) f es c k z O (opq cellsN true i)) = true then
 (if (opq (cntS (unS f es c z O) (dipOf (opq cellsN true i))) != 0) = false then
 (if isIntV i64 N[0 + i.toNat * 1]? = true then
 (if (int i64 (intV N[0 + i.toNat * 1]?)).beq (int i64 (intV N[0 + i.toNat * 1]?)) = true then
 (if isIntV i64 N[0 + i.toNat * 1]? = true then
 (if (int i64 (intV N[0 + i.toNat * 1]?)).beq (int i64 (intV N[0 + i.toNat * 1]?)) = true then
 (if isIntV i64 N[0 + i.toNat * 1]? = true then
 (if (int i64 (intV N[0 + i.toNat * 1]?)).beq (int i64 (intV N[0 + i.toNat * 1]?)) = true then
 (if isIntV i64 N[0 + i.toNat * 1]? = true then
 (if (int i64 (intV N[0 + i.toNat * 1]?)).beq (int i64 (intV N[0 + i.toNat * 1]?)) = true then
 (if 0 ≤ i ∧ i < 8 then
 (if isIntV i64 N[0 + i.toNat * 1]? = true then
 (if decide (intV N[0 + i.toNat * 1]? > 0) = false then
 some ((AEx.norm, [int i64 f, AV.ptr (some (2, 0)), AV.ptr (some (3, 0)), int i64 s, int i64 (i64.wrap (i + 1))], (hHM2f0 f C es c k z N O s i)))
 else none) else none) else none) else none) else none) else none) else none) else none) else none) else none) else none) else none) else none))
 else none) else none) else none))
 else none) else none) else none) else none) := by
  kernel_rfl

noncomputable def hHM2s0 (f : Int) (C : List AV) (es : List (AV × AV × Nat)) (c k z : Nat) (N O : List AV) (s i : Int) : AHeap := [ABlk.cells C 1 Md.far none, ABlk.mp es c true, cells [int i64 f, AV.map (some 1), AV.sl (some (4, 0)) k z false] 3 Md.own none, ABlk.cells N 8 Md.own none, ABlk.cells O 18 Md.own none]
theorem nfHM2s (f : Int) (C : List AV) (es : List (AV × AV × Nat)) (c k z : Nat) (N O : List AV) (s i : Int) :
 qround Try.prog tHM 100 4 [(72, .bool false)] noT HL2 mHM2 (vHM2 f s i) (hHM f C es c k z N O) =
 (if decide (i < 8) = false then
 some ((AEx.exit 2, [int i64 f, AV.ptr (some (2, 0)), AV.ptr (some (3, 0)), int i64 s, int i64 i], (hHM2s0 f C es c k z N O s i)))
 else none) := by
  kernel_rfl

noncomputable def hHMm0 (q1 q2 : Prop) (f : Int) (C : List AV) (es : List (AV × AV × Nat)) (c k z : Nat) (N O : List AV) (n : Nat) (s : Int) : AHeap := [ABlk.cells C 1 Md.far none, ABlk.mp [] 0 false, cells [int i64 f, AV.map (some 1), AV.sl none 0 0 true] 3 Md.own none, cells [int i64 0, int i64 0, int i64 0, int i64 0, int i64 0, int i64 0, int i64 0, int i64 0] 8 Md.own none]
noncomputable def hHMm1 (q1 q2 : Prop) (f : Int) (C : List AV) (es : List (AV × AV × Nat)) (c k z : Nat) (N O : List AV) (n : Nat) (s : Int) : AHeap := [ABlk.cells C 1 Md.far none, ABlk.mp [] 0 false, cells [int i64 f, AV.map (some 1), AV.sl none 0 0 true] 3 Md.own none, ABlk.cells n8z 8 Md.own none]
noncomputable def hHMm2 (q1 q2 : Prop) (f : Int) (C : List AV) (es : List (AV × AV × Nat)) (c k z : Nat) (N O : List AV) (n : Nat) (s : Int) : AHeap := [ABlk.cells C 1 Md.far none, ABlk.mp es c true, cells [int i64 f, AV.map (some 1), AV.sl (some (4, 0)) k z false] 3 Md.own none, ABlk.cells N 8 Md.own none, ABlk.cells O 18 Md.own none]
noncomputable def hHMm3 (q1 q2 : Prop) (f : Int) (C : List AV) (es : List (AV × AV × Nat)) (c k z : Nat) (N O : List AV) (n : Nat) (s : Int) : AHeap := [ABlk.cells C 1 Md.far none, ABlk.mp es c true, cells [int i64 f, AV.map (some 1), AV.sl (some (4, 0)) k z false] 3 Md.own none, ABlk.cells N 8 Md.own none, ABlk.cells O 18 Md.own none, cells (opq (itI (unS f es c z O) (List.take (cntA (unS f es c z O).l.length (-1)) (unS f es c z O).l))) 19 Md.own none]
theorem nfHMm {R : Type} (q1 q2 : Prop) (f : Int) (C : List AV) (es : List (AV × AV × Nat)) (c k z : Nat) (N O : List AV) (n : Nat) (s : Int) (K : AV → AHeap → Option R) :
 qrun Try.prog tHM 100 4 [(24, .bool false), (36, .bool false)] [(8, fixC q1 mHM1 (vHM1 f n 0) (hHMz f C n8z) (.exit 0) (vHM1 f n n) (hHM f C es c k z N O)), (17, fixC q2 mHM2 (vHM2 f 0 0) (hHM f C es c k z N O) (.exit 2) (vHM2 f s 8) (hHM f C es c k z N O))] 5 [.int .i64 f, .sl (some (0, 0)) n 0 false] [.cells C 1 .far none] K =
 (if decide (f < 1) = true then
 none
 else (if decide (f > 10) = true then
 none
 else (if decide ((n : Int) > 80) = false then
 (if decide (f < 1) = true then
 none
 else (if decide (f > 10) = true then
 none
 else (if cdec (q1 ∧ [int i64 f, AV.sl (some (0, 0)) n 0 false, AV.ptr (some (2, 0)), AV.ptr (some (3, 0)), int i64 0] = [int i64 f, AV.sl (some (0, 0)) n 0 false, AV.ptr (some (2, 0)), AV.ptr (some (3, 0)), int i64 0] ∧ (hHMm0 q1 q2 f C es c k z N O n s) = (hHMm1 q1 q2 f C es c k z N O n s)) = true then
 (if cdec (q2 ∧ [int i64 f, AV.ptr (some (2, 0)), AV.ptr (some (3, 0)), int i64 0, int i64 0] = [int i64 f, AV.ptr (some (2, 0)), AV.ptr (some (3, 0)), int i64 0, int i64 0] ∧ (hHMm2 q1 q2 f C es c k z N O n s) = (hHMm2 q1 q2 f C es c k z N O n s)) = true then
 (if cdec (2 ≠ 1 ∧ 2 ≠ 4 ∧ 1 ≠ 4 ∧ AllOk (unS f es c z O) (-1) f es c k z O) = true then
 (if ((((opq (cntA (unS f es c z O).l.length (-1))) : Nat) : Int) == s) = true then
 K (AV.bool true) ((hHMm3 q1 q2 f C es c k z N O n s))
 else K (AV.bool false) ((hHMm3 q1 q2 f C es c k z N O n s)))
 else none) else none) else none)))
 else none))) := by
  kernel_rfl


end Go.Proofs.Ytpghomcohejejaa.L
