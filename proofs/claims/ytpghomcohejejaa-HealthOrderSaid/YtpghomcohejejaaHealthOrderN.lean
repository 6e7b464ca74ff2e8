/- HealthOrder: its rows. -/
import Derived.Test.YtpghomcohejejaaHlK
import Derived.Test.YtpghomcohejejaaAwake23
set_option autoImplicit false
set_option maxRecDepth 100000
set_option linter.unusedVariables false
set_option linter.unusedSimpArgs false
namespace Go.Proofs.Ytpghomcohejejaa.L
open Go Go.Abs
open Go.IntKind
open Go.Abs.AV (int)
open Go.Abs.ABlk (cells)

noncomputable def tHO : Tbl := [(10, entF eRound), (9, entF eDipO), (11, entF eTel), (16, entF eAll), (13, entF eCnt), (7, entF eAwake)]
theorem tHOOk : ∀ f E, tHO.find f = some E → SoundE Try.prog f E := find_cons sRound (find_cons sDipO (find_cons sTel (find_cons sAll (find_cons sCnt (find_cons sAwake (find_nil _))))))
noncomputable abbrev HO1 := loopIn (bodyOf Try.prog 6) 0
noncomputable abbrev HO2 := loopIn HO1 0
noncomputable abbrev HO3 := loopIn (bodyOf Try.prog 6) 1
def mHO1 : List Bool := List.replicate 3 true ++ List.replicate 4 false ++ List.replicate 1 true ++ List.replicate 1 false ++ List.replicate 2 true ++ List.replicate 171 false
def mHO2 : List Bool := List.replicate 3 true ++ List.replicate 4 false ++ List.replicate 1 true ++ List.replicate 1 false ++ List.replicate 3 true ++ List.replicate 2 false ++ List.replicate 3 true ++ List.replicate 165 false
def mHO3 : List Bool := List.replicate 7 false ++ List.replicate 1 true ++ List.replicate 1 false ++ List.replicate 1 true ++ List.replicate 8 false ++ List.replicate 3 true ++ List.replicate 161 false
def hadF (L : List AV) (k : Int) : Bool := L.any fun a => AV.beq a (.int .i64 k)
def rstF (L : List AV) (k : Int) : List AV := L.filter fun a => !AV.beq a (.int .i64 k)
noncomputable def tellHO (vs : List AV) (h : AHeap) : List AV × AHeap := match vs with
  | [l, w, mo, q, line, i, .int .i64 k, r, d, j] => ([l, w, mo, q, line, i, .int .i64 k, .sl (some (h.length, 0)) (opq (rstF (rowOf h line) k).length) 0 false, .bool (opq (hadF (rowOf h line) k)), .int .i64 (nOf line)], h ++ [.cells (opq (rstF (rowOf h line) k)) 1 .own none])
  | _ => (vs, h)
noncomputable abbrev bHO2 := roundG Try.prog (deepT Try.prog tHO 100 4) (lsT noT) HO2 mHO2
noncomputable def lsHO : LoopTT := mixT [(17, fixS bHO2 mHO2 (.exit 2) tellHO)] noT
theorem lsHOOk : LoopsOk Try.prog (lsT lsHO) HO1 := by
  unfold lsHO
  rw [mixT_ls]
  have hl : loopsOf HO1 = [HO2] := by kernel_rfl
  intro b hb s hs
  rw [hl] at hb
  simp only [List.mem_cons, List.not_mem_nil, or_false] at hb
  unfold mixLS at hs
  subst hb
  rw [show firstReg HO2 = 17 by kernel_rfl] at hs
  simp only [lsOf, if_true] at hs
  cases hs
  exact fixS_sound tHOOk (noLoops (by kernel_rfl))
def vHO1 (mo : Int) (n m k : Nat) (i : Int) : List AV := [.sl (some (0, 0)) n 0 false, .sl (some (1, 0)) m 0 false, .int .i64 mo, .ptr (some (3, 0)), .sl (some (5, 0)) k 0 false, .int .i64 i]
def vHO1z (mo : Int) (n m : Nat) (i : Int) : List AV := [.sl (some (0, 0)) n 0 false, .sl (some (1, 0)) m 0 false, .int .i64 mo, .ptr (some (3, 0)), .sl none 0 0 true, .int .i64 i]
def vHO2 (mo : Int) (n m k r : Nat) (i x j : Int) (d : Bool) : List AV := [.sl (some (0, 0)) n 0 false, .sl (some (1, 0)) m 0 false, .int .i64 mo, .ptr (some (3, 0)), .sl (some (5, 0)) k 0 false, .int .i64 i, .int .i64 x, .sl (some (7, 0)) r 0 false, .bool d, .int .i64 j]
def vHO3 (k a b : Nat) (i : Int) : List AV := [.ptr (some (3, 0)), .sl (some (5, 0)) k 0 false, .sl (some (6, 0)) a 0 false, .sl (some (7, 0)) b 0 false, .int .i64 i]
def hHOz (C E : List AV) : AHeap := [.cells C 1 .far none, .cells E 1 .far none, .mp [] 0 false, .cells [.int .i64 3, .map (some 2), .sl none 0 0 true] 3 .own none]
def hHO (C E : List AV) (es : List (AV × AV × Nat)) (c k z : Nat) (O L : List AV) : AHeap := [.cells C 1 .far none, .cells E 1 .far none, .mp es c true, .cells [.int .i64 3, .map (some 2), .sl (some (4, 0)) k z false] 3 .own none, .cells O 18 .own none, .cells L 1 .own none]
def hHO2 (B0 B1 B2 B3 B4 B6 : ABlk) (L R : List AV) : AHeap := [B0, B1, B2, B3, B4, .cells L 1 .own none, B6, .cells R 1 .own none]
def hHO3 (C E : List AV) (es : List (AV × AV × Nat)) (c k z : Nat) (O L X Y : List AV) : AHeap := hHO C E es c k z O L ++ [.cells X 19 .own none, .cells Y 19 .own none]

noncomputable def hHO2a0 (mo : Int) (B0 B1 B2 B3 B4 B6 : ABlk) (L R : List AV) (n m k r : Nat) (i x j : Int) (d : Bool) : AHeap := [B0, B1, B2, B3, B4, ABlk.cells L 1 Md.own none, B6, ABlk.cells R 1 Md.own none]
theorem nfHO2a (mo : Int) (B0 B1 B2 B3 B4 B6 : ABlk) (L R : List AV) (n m k r : Nat) (i x j : Int) (d : Bool) :
 qround Try.prog tHO 100 4 [(74, .bool true), (82, .bool true)] noT HO2 mHO2 (vHO2 mo n m k r i x j d) (hHO2 B0 B1 B2 B3 B4 B6 L R) =
 (if decide (j < (k : Int)) = true then
 (if 0 ≤ j ∧ j < (k : Int) then
 (if isIntV i64 L[0 + j.toNat * 1]? = true then
 (if (intV L[0 + j.toNat * 1]? == x) = true then
 some ((AEx.norm, [AV.sl (some (0, 0)) n 0 false, AV.sl (some (1, 0)) m 0 false, int i64 mo, AV.ptr (some (3, 0)), AV.sl (some (5, 0)) k 0 false, int i64 i, int i64 x, AV.sl (some (7, 0)) r 0 false, AV.bool true, int i64 (i64.wrap (j + 1))], (hHO2a0 mo B0 B1 B2 B3 B4 B6 L R n m k r i x j d)))
 else none) else none) else none) else none) := by
  kernel_rfl

noncomputable def hHO2b0 (mo : Int) (B0 B1 B2 B3 B4 B6 : ABlk) (L R : List AV) (n m k r : Nat) (i x j : Int) (d : Bool) : AHeap := [B0, B1, B2, B3, B4, ABlk.cells L 1 Md.own none, B6, ABlk.cells R 1 Md.ro none, cells [int i64 (intV L[0 + j.toNat * 1]?)] 1 Md.own none, cells (List.take (r * 1) R ++ [int i64 (intV L[0 + j.toNat * 1]?)]) 1 Md.own (some 7)]
theorem nfHO2b (mo : Int) (B0 B1 B2 B3 B4 B6 : ABlk) (L R : List AV) (n m k r : Nat) (i x j : Int) (d : Bool) :
 qround Try.prog tHO 100 4 [(74, .bool true), (82, .bool false)] noT HO2 mHO2 (vHO2 mo n m k r i x j d) (hHO2 B0 B1 B2 B3 B4 B6 L R) =
 (if decide (j < (k : Int)) = true then
 (if 0 ≤ j ∧ j < (k : Int) then
 (if isIntV i64 L[0 + j.toNat * 1]? = true then
 (if (intV L[0 + j.toNat * 1]? == x) = false then
 (if 0 ≤ j ∧ j < (k : Int) then
 (if isIntV i64 L[0 + j.toNat * 1]? = true then
 (if (2 * (r + 1) + 200) * 8 ≤ 281474976710656 ∧ some 1 = some 1 ∧ r + 1 ≤ 70368744177664 then
 (if 0 + r * 1 ≤ R.length then
 (if 0 = 0 ∧ 0 + r * 1 = R.length ∧ (0 < 1 ∨ 0 = 0) ∧ 1 = 1 ∧ [int i64 (intV L[0 + j.toNat * 1]?)].all AV.isCell = true then
 some ((AEx.norm, [AV.sl (some (0, 0)) n 0 false, AV.sl (some (1, 0)) m 0 false, int i64 mo, AV.ptr (some (3, 0)), AV.sl (some (5, 0)) k 0 false, int i64 i, int i64 x, AV.sl (some (9, 0)) (r + 1) 0 false, AV.bool d, int i64 (i64.wrap (j + 1))], (hHO2b0 mo B0 B1 B2 B3 B4 B6 L R n m k r i x j d)))
 else none) else none) else none) else none) else none) else none) else none) else none) else none) := by
  kernel_rfl

noncomputable def hHO2s0 (mo : Int) (B0 B1 B2 B3 B4 B6 : ABlk) (L R : List AV) (n m k r : Nat) (i x j : Int) (d : Bool) : AHeap := [B0, B1, B2, B3, B4, ABlk.cells L 1 Md.own none, B6, ABlk.cells R 1 Md.own none]
theorem nfHO2s (mo : Int) (B0 B1 B2 B3 B4 B6 : ABlk) (L R : List AV) (n m k r : Nat) (i x j : Int) (d : Bool) :
 qround Try.prog tHO 100 4 [(74, .bool false)] noT HO2 mHO2 (vHO2 mo n m k r i x j d) (hHO2 B0 B1 B2 B3 B4 B6 L R) =
 (if decide (j < (k : Int)) = false then
 some ((AEx.exit 2, [AV.sl (some (0, 0)) n 0 false, AV.sl (some (1, 0)) m 0 false, int i64 mo, AV.ptr (some (3, 0)), AV.sl (some (5, 0)) k 0 false, int i64 i, int i64 x, AV.sl (some (7, 0)) r 0 false, AV.bool d, int i64 j], (hHO2s0 mo B0 B1 B2 B3 B4 B6 L R n m k r i x j d)))
 else none) := by
  kernel_rfl

noncomputable def hHO1W0 (C E : List AV) (es : List (AV × AV × Nat)) (c k z : Nat) (O L : List AV) (mo : Int) (n m q : Nat) (i : Int) : AHeap := [ABlk.cells C 1 Md.far none, ABlk.cells E 1 Md.far none, ABlk.mp (opq (esG (telS (unS 3 es c z O) (dipOf (opq cellsN true (intV C[0 + i.toNat * 1]? % 7))) (boolV E[0 + i.toNat * 1]?)).G)) (opq (telS (unS 3 es c z O) (dipOf (opq cellsN true (intV C[0 + i.toNat * 1]? % 7))) (boolV E[0 + i.toNat * 1]?)).c) true, cells [int i64 3, AV.map (some 2), AV.sl (some (6, 0)) (opq (telS (unS 3 es c z O) (dipOf (opq cellsN true (intV C[0 + i.toNat * 1]? % 7))) (boolV E[0 + i.toNat * 1]?)).l.length) (opq (telS (unS 3 es c z O) (dipOf (opq cellsN true (intV C[0 + i.toNat * 1]? % 7))) (boolV E[0 + i.toNat * 1]?)).z) false] 3 Md.own none, ABlk.dead, ABlk.cells L 1 Md.own none, cells (opq (rowD (telS (unS 3 es c z O) (dipOf (opq cellsN true (intV C[0 + i.toNat * 1]? % 7))) (boolV E[0 + i.toNat * 1]?)).l (telS (unS 3 es c z O) (dipOf (opq cellsN true (intV C[0 + i.toNat * 1]? % 7))) (boolV E[0 + i.toNat * 1]?)).z)) 18 Md.own none]
noncomputable def hHO1W1 (C E : List AV) (es : List (AV × AV × Nat)) (c k z : Nat) (O L : List AV) (mo : Int) (n m q : Nat) (i : Int) : AHeap := [ABlk.cells C 1 Md.far none, ABlk.cells E 1 Md.far none, ABlk.mp (opq (esG (telS (unS 3 es c z O) (dipOf (opq cellsN true (intV C[0 + i.toNat * 1]? % 7))) (boolV E[0 + i.toNat * 1]?)).G)) (opq (telS (unS 3 es c z O) (dipOf (opq cellsN true (intV C[0 + i.toNat * 1]? % 7))) (boolV E[0 + i.toNat * 1]?)).c) true, cells [int i64 3, AV.map (some 2), AV.sl (some (6, 0)) (opq (telS (unS 3 es c z O) (dipOf (opq cellsN true (intV C[0 + i.toNat * 1]? % 7))) (boolV E[0 + i.toNat * 1]?)).l.length) (opq (telS (unS 3 es c z O) (dipOf (opq cellsN true (intV C[0 + i.toNat * 1]? % 7))) (boolV E[0 + i.toNat * 1]?)).z) false] 3 Md.own none, ABlk.dead, ABlk.cells L 1 Md.own none, cells (opq (rowD (telS (unS 3 es c z O) (dipOf (opq cellsN true (intV C[0 + i.toNat * 1]? % 7))) (boolV E[0 + i.toNat * 1]?)).l (telS (unS 3 es c z O) (dipOf (opq cellsN true (intV C[0 + i.toNat * 1]? % 7))) (boolV E[0 + i.toNat * 1]?)).z)) 18 Md.own none, cells (opq (rstF (rowOf (hHO1W0 C E es c k z O L mo n m q i) (AV.sl (some (5, 0)) q 0 false)) (intV C[0 + i.toNat * 1]? % 7))) 1 Md.own none]
theorem nfHO1W (C E : List AV) (es : List (AV × AV × Nat)) (c k z : Nat) (O L : List AV) (mo : Int) (n m q : Nat) (i : Int) :
 qround Try.prog tHO 100 4 [(50, .bool true), (70, .bool false), (93, .bool true)] lsHO HO1 mHO1 (vHO1 mo n m q i) (hHO C E es c k z O L) =
 (if decide (i < (n : Int)) = true then
 (if 0 ≤ i ∧ i < (n : Int) then
 (if isIntV i64 C[0 + i.toNat * 1]? = true then
 (if 0 ≤ i ∧ i < (m : Int) then
 (if isBoolV E[0 + i.toNat * 1]? = true then
 (if cdec (3 ≠ 2 ∧ 3 ≠ 4 ∧ 2 ≠ 4 ∧ TelOk (unS 3 es c z O) (dipOf (opq cellsN true (intV C[0 + i.toNat * 1]? % 7))) 3 es c k z O (opq cellsN true (intV C[0 + i.toNat * 1]? % 7))) = true then
 (if isBoolV E[0 + i.toNat * 1]? = true then
 (if (AV.bool (boolV E[0 + i.toNat * 1]?)).beq (AV.bool (boolV E[0 + i.toNat * 1]?)) = true then
 (if (opq (telE (dipOf (opq cellsN true (intV C[0 + i.toNat * 1]? % 7)))) != 0) = false then
 (if cdec (LSays bHO2 7 [AV.sl (some (0, 0)) n 0 false, AV.sl (some (1, 0)) m 0 false, int i64 mo, AV.ptr (some (3, 0)), AV.sl (some (5, 0)) q 0 false, int i64 i, int i64 (intV C[0 + i.toNat * 1]? % 7), AV.sl none 0 0 true, AV.bool false, int i64 0] (hHO1W0 C E es c k z O L mo n m q i) (AEx.exit 2) [AV.sl (some (0, 0)) n 0 false, AV.sl (some (1, 0)) m 0 false, int i64 mo, AV.ptr (some (3, 0)), AV.sl (some (5, 0)) q 0 false, int i64 i, int i64 (intV C[0 + i.toNat * 1]? % 7), AV.sl (some (7, 0)) (opq (rstF (rowOf (hHO1W0 C E es c k z O L mo n m q i) (AV.sl (some (5, 0)) q 0 false)) (intV C[0 + i.toNat * 1]? % 7)).length) 0 false, AV.bool (opq (hadF (rowOf (hHO1W0 C E es c k z O L mo n m q i) (AV.sl (some (5, 0)) q 0 false)) (intV C[0 + i.toNat * 1]? % 7))), int i64 (((nOf (AV.sl (some (5, 0)) q 0 false)) : Nat) : Int)] (hHO1W1 C E es c k z O L mo n m q i)) = true then
 (if 0 ≤ i ∧ i < (m : Int) then
 (if isBoolV E[0 + i.toNat * 1]? = true then
 (if boolV E[0 + i.toNat * 1]? = true then
 some ((AEx.norm, [AV.sl (some (0, 0)) n 0 false, AV.sl (some (1, 0)) m 0 false, int i64 mo, AV.ptr (some (3, 0)), AV.sl (some (7, 0)) (opq (rstF (rowOf (hHO1W0 C E es c k z O L mo n m q i) (AV.sl (some (5, 0)) q 0 false)) (intV C[0 + i.toNat * 1]? % 7)).length) 0 false, int i64 (i64.wrap (i + 1))], (hHO1W1 C E es c k z O L mo n m q i)))
 else none) else none) else none) else none) else none) else none) else none) else none) else none) else none) else none) else none) else none) := by
  kernel_rfl

noncomputable def hHO1N0 (C E : List AV) (es : List (AV × AV × Nat)) (c k z : Nat) (O L : List AV) (mo : Int) (n m q : Nat) (i : Int) : AHeap := [ABlk.cells C 1 Md.far none, ABlk.cells E 1 Md.far none, ABlk.mp (opq (esG (telS (unS 3 es c z O) (dipOf (opq cellsN true (intV C[0 + i.toNat * 1]? % 7))) (boolV E[0 + i.toNat * 1]?)).G)) (opq (telS (unS 3 es c z O) (dipOf (opq cellsN true (intV C[0 + i.toNat * 1]? % 7))) (boolV E[0 + i.toNat * 1]?)).c) true, cells [int i64 3, AV.map (some 2), AV.sl (some (6, 0)) (opq (telS (unS 3 es c z O) (dipOf (opq cellsN true (intV C[0 + i.toNat * 1]? % 7))) (boolV E[0 + i.toNat * 1]?)).l.length) (opq (telS (unS 3 es c z O) (dipOf (opq cellsN true (intV C[0 + i.toNat * 1]? % 7))) (boolV E[0 + i.toNat * 1]?)).z) false] 3 Md.own none, ABlk.dead, ABlk.cells L 1 Md.own none, cells (opq (rowD (telS (unS 3 es c z O) (dipOf (opq cellsN true (intV C[0 + i.toNat * 1]? % 7))) (boolV E[0 + i.toNat * 1]?)).l (telS (unS 3 es c z O) (dipOf (opq cellsN true (intV C[0 + i.toNat * 1]? % 7))) (boolV E[0 + i.toNat * 1]?)).z)) 18 Md.own none]
noncomputable def hHO1N1 (C E : List AV) (es : List (AV × AV × Nat)) (c k z : Nat) (O L : List AV) (mo : Int) (n m q : Nat) (i : Int) : AHeap := [ABlk.cells C 1 Md.far none, ABlk.cells E 1 Md.far none, ABlk.mp (opq (esG (telS (unS 3 es c z O) (dipOf (opq cellsN true (intV C[0 + i.toNat * 1]? % 7))) (boolV E[0 + i.toNat * 1]?)).G)) (opq (telS (unS 3 es c z O) (dipOf (opq cellsN true (intV C[0 + i.toNat * 1]? % 7))) (boolV E[0 + i.toNat * 1]?)).c) true, cells [int i64 3, AV.map (some 2), AV.sl (some (6, 0)) (opq (telS (unS 3 es c z O) (dipOf (opq cellsN true (intV C[0 + i.toNat * 1]? % 7))) (boolV E[0 + i.toNat * 1]?)).l.length) (opq (telS (unS 3 es c z O) (dipOf (opq cellsN true (intV C[0 + i.toNat * 1]? % 7))) (boolV E[0 + i.toNat * 1]?)).z) false] 3 Md.own none, ABlk.dead, ABlk.cells L 1 Md.own none, cells (opq (rowD (telS (unS 3 es c z O) (dipOf (opq cellsN true (intV C[0 + i.toNat * 1]? % 7))) (boolV E[0 + i.toNat * 1]?)).l (telS (unS 3 es c z O) (dipOf (opq cellsN true (intV C[0 + i.toNat * 1]? % 7))) (boolV E[0 + i.toNat * 1]?)).z)) 18 Md.own none, cells (opq (rstF (rowOf (hHO1N0 C E es c k z O L mo n m q i) (AV.sl (some (5, 0)) q 0 false)) (intV C[0 + i.toNat * 1]? % 7))) 1 Md.own none]
noncomputable def hHO1N2 (C E : List AV) (es : List (AV × AV × Nat)) (c k z : Nat) (O L : List AV) (mo : Int) (n m q : Nat) (i : Int) : AHeap := [ABlk.cells C 1 Md.far none, ABlk.cells E 1 Md.far none, ABlk.mp (opq (esG (telS (unS 3 es c z O) (dipOf (opq cellsN true (intV C[0 + i.toNat * 1]? % 7))) (boolV E[0 + i.toNat * 1]?)).G)) (opq (telS (unS 3 es c z O) (dipOf (opq cellsN true (intV C[0 + i.toNat * 1]? % 7))) (boolV E[0 + i.toNat * 1]?)).c) true, cells [int i64 3, AV.map (some 2), AV.sl (some (6, 0)) (opq (telS (unS 3 es c z O) (dipOf (opq cellsN true (intV C[0 + i.toNat * 1]? % 7))) (boolV E[0 + i.toNat * 1]?)).l.length) (opq (telS (unS 3 es c z O) (dipOf (opq cellsN true (intV C[0 + i.toNat * 1]? % 7))) (boolV E[0 + i.toNat * 1]?)).z) false] 3 Md.own none, ABlk.dead, ABlk.cells L 1 Md.own none, cells (opq (rowD (telS (unS 3 es c z O) (dipOf (opq cellsN true (intV C[0 + i.toNat * 1]? % 7))) (boolV E[0 + i.toNat * 1]?)).l (telS (unS 3 es c z O) (dipOf (opq cellsN true (intV C[0 + i.toNat * 1]? % 7))) (boolV E[0 + i.toNat * 1]?)).z)) 18 Md.own none, cells (opq (rstF (rowOf (hHO1N0 C E es c k z O L mo n m q i) (AV.sl (some (5, 0)) q 0 false)) (intV C[0 + i.toNat * 1]? % 7))) 1 Md.own none, ABlk.dead, cells (List.take (q * 1) L) 1 Md.ro none, cells [int i64 (intV C[0 + i.toNat * 1]? % 7)] 1 Md.own none, cells (List.take ((0 + q) * 1) (List.take (q * 1) L) ++ [int i64 (intV C[0 + i.toNat * 1]? % 7)]) 1 Md.own (some 9)]
theorem nfHO1N (C E : List AV) (es : List (AV × AV × Nat)) (c k z : Nat) (O L : List AV) (mo : Int) (n m q : Nat) (i : Int) :
 qround Try.prog tHO 100 4 [(50, .bool true), (70, .bool false), (93, .bool false), (96, .bool true)] lsHO HO1 mHO1 (vHO1 mo n m q i) (hHO C E es c k z O L) =
 (if decide (i < (n : Int)) = true then
 (if 0 ≤ i ∧ i < (n : Int) then
 (if isIntV i64 C[0 + i.toNat * 1]? = true then
 (if 0 ≤ i ∧ i < (m : Int) then
 (if isBoolV E[0 + i.toNat * 1]? = true then
 (if cdec (3 ≠ 2 ∧ 3 ≠ 4 ∧ 2 ≠ 4 ∧ TelOk (unS 3 es c z O) (dipOf (opq cellsN true (intV C[0 + i.toNat * 1]? % 7))) 3 es c k z O (opq cellsN true (intV C[0 + i.toNat * 1]? % 7))) = true then
 (if isBoolV E[0 + i.toNat * 1]? = true then
 (if (AV.bool (boolV E[0 + i.toNat * 1]?)).beq (AV.bool (boolV E[0 + i.toNat * 1]?)) = true then
 (if (opq (telE (dipOf (opq cellsN true (intV C[0 + i.toNat * 1]? % 7)))) != 0) = false then
 (if cdec (LSays bHO2 7 [AV.sl (some (0, 0)) n 0 false, AV.sl (some (1, 0)) m 0 false, int i64 mo, AV.ptr (some (3, 0)), AV.sl (some (5, 0)) q 0 false, int i64 i, int i64 (intV C[0 + i.toNat * 1]? % 7), AV.sl none 0 0 true, AV.bool false, int i64 0] (hHO1N0 C E es c k z O L mo n m q i) (AEx.exit 2) [AV.sl (some (0, 0)) n 0 false, AV.sl (some (1, 0)) m 0 false, int i64 mo, AV.ptr (some (3, 0)), AV.sl (some (5, 0)) q 0 false, int i64 i, int i64 (intV C[0 + i.toNat * 1]? % 7), AV.sl (some (7, 0)) (opq (rstF (rowOf (hHO1N0 C E es c k z O L mo n m q i) (AV.sl (some (5, 0)) q 0 false)) (intV C[0 + i.toNat * 1]? % 7)).length) 0 false, AV.bool (opq (hadF (rowOf (hHO1N0 C E es c k z O L mo n m q i) (AV.sl (some (5, 0)) q 0 false)) (intV C[0 + i.toNat * 1]? % 7))), int i64 (((nOf (AV.sl (some (5, 0)) q 0 false)) : Nat) : Int)] (hHO1N1 C E es c k z O L mo n m q i)) = true then
 (if 0 ≤ i ∧ i < (m : Int) then
 (if isBoolV E[0 + i.toNat * 1]? = true then
 (if boolV E[0 + i.toNat * 1]? = false then
 (if (!opq (hadF (rowOf (hHO1N0 C E es c k z O L mo n m q i) (AV.sl (some (5, 0)) q 0 false)) (intV C[0 + i.toNat * 1]? % 7))) = true then
 (if 0 + q * 1 ≤ L.length then
 (if (2 * (0 + q) + 200) * 8 ≤ 281474976710656 ∧ some 1 = some 1 ∧ 0 + q ≤ 70368744177664 then
 (if 0 = 0 ∧ 0 = 0 ∧ (0 < q ∨ 0 = 0) ∧ 1 = 1 ∧ (List.take (q * 1) L).all AV.isCell = true then
 (if (2 * (0 + q + 1) + 200) * 8 ≤ 281474976710656 ∧ some 1 = some 1 ∧ 0 + q + 1 ≤ 70368744177664 then
 (if 0 + (0 + q) * 1 ≤ (List.take (q * 1) L).length then
 (if 0 = 0 ∧ 0 + (0 + q) * 1 = (List.take (q * 1) L).length ∧ (0 < 1 ∨ 0 = 0) ∧ 1 = 1 ∧ [int i64 (intV C[0 + i.toNat * 1]? % 7)].all AV.isCell = true then
 some ((AEx.norm, [AV.sl (some (0, 0)) n 0 false, AV.sl (some (1, 0)) m 0 false, int i64 mo, AV.ptr (some (3, 0)), AV.sl (some (11, 0)) (0 + q + 1) 0 false, int i64 (i64.wrap (i + 1))], (hHO1N2 C E es c k z O L mo n m q i)))
 else none) else none) else none) else none) else none) else none) else none) else none) else none) else none) else none) else none) else none) else none) else none) else none) else none) else none) else none) else none) := by
  kernel_rfl

noncomputable def hHO1H0 (C E : List AV) (es : List (AV × AV × Nat)) (c k z : Nat) (O L : List AV) (mo : Int) (n m q : Nat) (i : Int) : AHeap := [ABlk.cells C 1 Md.far none, ABlk.cells E 1 Md.far none, ABlk.mp (opq (esG (telS (unS 3 es c z O) (dipOf (opq cellsN true (intV C[0 + i.toNat * 1]? % 7))) (boolV E[0 + i.toNat * 1]?)).G)) (opq (telS (unS 3 es c z O) (dipOf (opq cellsN true (intV C[0 + i.toNat * 1]? % 7))) (boolV E[0 + i.toNat * 1]?)).c) true, cells [int i64 3, AV.map (some 2), AV.sl (some (6, 0)) (opq (telS (unS 3 es c z O) (dipOf (opq cellsN true (intV C[0 + i.toNat * 1]? % 7))) (boolV E[0 + i.toNat * 1]?)).l.length) (opq (telS (unS 3 es c z O) (dipOf (opq cellsN true (intV C[0 + i.toNat * 1]? % 7))) (boolV E[0 + i.toNat * 1]?)).z) false] 3 Md.own none, ABlk.dead, ABlk.cells L 1 Md.own none, cells (opq (rowD (telS (unS 3 es c z O) (dipOf (opq cellsN true (intV C[0 + i.toNat * 1]? % 7))) (boolV E[0 + i.toNat * 1]?)).l (telS (unS 3 es c z O) (dipOf (opq cellsN true (intV C[0 + i.toNat * 1]? % 7))) (boolV E[0 + i.toNat * 1]?)).z)) 18 Md.own none]
noncomputable def hHO1H1 (C E : List AV) (es : List (AV × AV × Nat)) (c k z : Nat) (O L : List AV) (mo : Int) (n m q : Nat) (i : Int) : AHeap := [ABlk.cells C 1 Md.far none, ABlk.cells E 1 Md.far none, ABlk.mp (opq (esG (telS (unS 3 es c z O) (dipOf (opq cellsN true (intV C[0 + i.toNat * 1]? % 7))) (boolV E[0 + i.toNat * 1]?)).G)) (opq (telS (unS 3 es c z O) (dipOf (opq cellsN true (intV C[0 + i.toNat * 1]? % 7))) (boolV E[0 + i.toNat * 1]?)).c) true, cells [int i64 3, AV.map (some 2), AV.sl (some (6, 0)) (opq (telS (unS 3 es c z O) (dipOf (opq cellsN true (intV C[0 + i.toNat * 1]? % 7))) (boolV E[0 + i.toNat * 1]?)).l.length) (opq (telS (unS 3 es c z O) (dipOf (opq cellsN true (intV C[0 + i.toNat * 1]? % 7))) (boolV E[0 + i.toNat * 1]?)).z) false] 3 Md.own none, ABlk.dead, ABlk.cells L 1 Md.own none, cells (opq (rowD (telS (unS 3 es c z O) (dipOf (opq cellsN true (intV C[0 + i.toNat * 1]? % 7))) (boolV E[0 + i.toNat * 1]?)).l (telS (unS 3 es c z O) (dipOf (opq cellsN true (intV C[0 + i.toNat * 1]? % 7))) (boolV E[0 + i.toNat * 1]?)).z)) 18 Md.own none, cells (opq (rstF (rowOf (hHO1H0 C E es c k z O L mo n m q i) (AV.sl (some (5, 0)) q 0 false)) (intV C[0 + i.toNat * 1]? % 7))) 1 Md.own none]
theorem nfHO1H (C E : List AV) (es : List (AV × AV × Nat)) (c k z : Nat) (O L : List AV) (mo : Int) (n m q : Nat) (i : Int) :
 qround Try.prog tHO 100 4 [(50, .bool true), (70, .bool false), (93, .bool false), (96, .bool false)] lsHO HO1 mHO1 (vHO1 mo n m q i) (hHO C E es c k z O L) =
 (if decide (i < (n : Int)) = true then
 (if 0 ≤ i ∧ i < (n : Int) then
 (if isIntV i64 C[0 + i.toNat * 1]? = true then
 (if 0 ≤ i ∧ i < (m : Int) then
 (if isBoolV E[0 + i.toNat * 1]? = true then
 (if cdec (3 ≠ 2 ∧ 3 ≠ 4 ∧ 2 ≠ 4 ∧ TelOk (unS 3 es c z O) (dipOf (opq cellsN true (intV C[0 + i.toNat * 1]? % 7))) 3 es c k z O (opq cellsN true (intV C[0 + i.toNat * 1]? % 7))) = true then
 (if isBoolV E[0 + i.toNat * 1]? = true then
 (if (AV.bool (boolV E[0 + i.toNat * 1]?)).beq (AV.bool (boolV E[0 + i.toNat * 1]?)) = true then
 (if (opq (telE (dipOf (opq cellsN true (intV C[0 + i.toNat * 1]? % 7)))) != 0) = false then
 (if cdec (LSays bHO2 7 [AV.sl (some (0, 0)) n 0 false, AV.sl (some (1, 0)) m 0 false, int i64 mo, AV.ptr (some (3, 0)), AV.sl (some (5, 0)) q 0 false, int i64 i, int i64 (intV C[0 + i.toNat * 1]? % 7), AV.sl none 0 0 true, AV.bool false, int i64 0] (hHO1H0 C E es c k z O L mo n m q i) (AEx.exit 2) [AV.sl (some (0, 0)) n 0 false, AV.sl (some (1, 0)) m 0 false, int i64 mo, AV.ptr (some (3, 0)), AV.sl (some (5, 0)) q 0 false, int i64 i, int i64 (intV C[0 + i.toNat * 1]? % 7), AV.sl (some (7, 0)) (opq (rstF (rowOf (hHO1H0 C E es c k z O L mo n m q i) (AV.sl (some (5, 0)) q 0 false)) (intV C[0 + i.toNat * 1]? % 7)).length) 0 false, AV.bool (opq (hadF (rowOf (hHO1H0 C E es c k z O L mo n m q i) (AV.sl (some (5, 0)) q 0 false)) (intV C[0 + i.toNat * 1]? % 7))), int i64 (((nOf (AV.sl (some (5, 0)) q 0 false)) : Nat) : Int)] (hHO1H1 C E es c k z O L mo n m q i)) = true then
 (if 0 ≤ i ∧ i < (m : Int) then
 (if isBoolV E[0 + i.toNat * 1]? = true then
 (if boolV E[0 + i.toNat * 1]? = false then
 (if (!opq (hadF (rowOf (hHO1H0 C E es c k z O L mo n m q i) (AV.sl (some (5, 0)) q 0 false)) (intV C[0 + i.toNat * 1]? % 7))) = false then
 some ((AEx.norm, [AV.sl (some (0, 0)) n 0 false, AV.sl (some (1, 0)) m 0 false, int i64 mo, AV.ptr (some (3, 0)), AV.sl (some (5, 0)) q 0 false, int i64 (i64.wrap (i + 1))], (hHO1H1 C E es c k z O L mo n m q i)))
 else none) else none) else none) else none) else none) else none) else none) else none) else none) else none) else none) else none) else none) else none) := by
  kernel_rfl

noncomputable def hHO1s0 (C E : List AV) (es : List (AV × AV × Nat)) (c k z : Nat) (O L : List AV) (mo : Int) (n m q : Nat) (i : Int) : AHeap := [ABlk.cells C 1 Md.far none, ABlk.cells E 1 Md.far none, ABlk.mp es c true, cells [int i64 3, AV.map (some 2), AV.sl (some (4, 0)) k z false] 3 Md.own none, ABlk.cells O 18 Md.own none, ABlk.cells L 1 Md.own none]
theorem nfHO1s (C E : List AV) (es : List (AV × AV × Nat)) (c k z : Nat) (O L : List AV) (mo : Int) (n m q : Nat) (i : Int) :
 qround Try.prog tHO 100 4 [(50, .bool false)] lsHO HO1 mHO1 (vHO1 mo n m q i) (hHO C E es c k z O L) =
 (if decide (i < (n : Int)) = false then
 some ((AEx.exit 0, [AV.sl (some (0, 0)) n 0 false, AV.sl (some (1, 0)) m 0 false, int i64 mo, AV.ptr (some (3, 0)), AV.sl (some (5, 0)) q 0 false, int i64 i], (hHO1s0 C E es c k z O L mo n m q i)))
 else none) := by
  kernel_rfl


end Go.Proofs.Ytpghomcohejejaa.L
