/- The reference's Shares: its rows. -/
import Derived.Test.YtlppbeoiphglcaaRsM
set_option autoImplicit false
set_option maxRecDepth 100000
set_option linter.unusedVariables false
set_option linter.unusedSimpArgs false
namespace Go.Proofs.Ytlppbeoiphglcaa.L
open Go Go.Abs
open Go.IntKind
open Go.Abs.AV (int)
open Go.Abs.ABlk (cells)

noncomputable abbrev RH1 := loopIn (bodyOf Try.prog 16) 0
noncomputable abbrev RH2 := loopIn (bodyOf Try.prog 16) 1
noncomputable abbrev RH3 := loopIn (bodyOf Try.prog 16) 2
noncomputable abbrev RH4 := loopIn RH3 0
def mRh1 : List Bool := List.replicate 2 true ++ List.replicate 3 false ++ List.replicate 2 true ++ List.replicate 102 false
def mRh2 : List Bool := List.replicate 2 true ++ List.replicate 3 false ++ List.replicate 1 true ++ List.replicate 1 false ++ List.replicate 4 true ++ List.replicate 98 false
def mRh3 : List Bool := List.replicate 1 true ++ List.replicate 6 false ++ List.replicate 3 true ++ List.replicate 99 false
def mRh4 : List Bool := List.replicate 1 true ++ List.replicate 6 false ++ List.replicate 3 true ++ List.replicate 1 false ++ List.replicate 2 true ++ List.replicate 96 false
noncomputable def tRh : Tbl := [(13, entF eMb)]
theorem tRhOk : ∀ f E, tRh.find f = some E → SoundE Try.prog f E := find_cons sMb (find_nil _)
noncomputable def tellRh (vs : List AV) (h : AHeap) : List AV × AHeap := match vs with
  | [m, l, r, n, _, _] => ([m, l, r, n, .int .i64 (opq (bestI (ilOf (rowOf h r)) : Nat)), .int .i64 (nOf m)], h)
  | _ => (vs, h)
noncomputable abbrev bRh4 := roundG Try.prog (deepT Try.prog tRh 100 4) (lsT noT) RH4 mRh4
noncomputable def lsRh : LoopTT := mixT [(19, fixS bRh4 mRh4 (.exit 6) tellRh)] noT
theorem lsRhOk : LoopsOk Try.prog (lsT lsRh) RH3 := by
  unfold lsRh
  rw [mixT_ls]
  have hl : loopsOf RH3 = [RH4] := by kernel_rfl
  intro b hb s hs
  rw [hl] at hb
  simp only [List.mem_cons, List.not_mem_nil, or_false] at hb
  unfold mixLS at hs
  subst hb
  rw [show firstReg RH4 = 19 by kernel_rfl] at hs
  simp only [lsOf, if_true] at hs
  cases hs
  exact fixS_sound tRhOk (noLoops (by kernel_rfl))
def vRh1 (k : Nat) (n s i : Int) : List AV := [.sl (some (0, 0)) k 0 false, .int .i64 n, .int .i64 s, .int .i64 i]
def vRh2 (k o : Nat) (n s l i : Int) : List AV := [.sl (some (0, 0)) k 0 false, .int .i64 n, .int .i64 s, .sl (some (1, 0)) o 0 false, .sl (some (2, 0)) o 0 false, .int .i64 l, .int .i64 i]
def vRh2z (k : Nat) (n s l i : Int) : List AV := [.sl (some (0, 0)) k 0 false, .int .i64 n, .int .i64 s, .sl none 0 0 true, .sl none 0 0 true, .int .i64 l, .int .i64 i]
def vRh3 (k o : Nat) (l : Int) : List AV := [.sl (some (0, 0)) k 0 false, .sl (some (1, 0)) o 0 false, .sl (some (2, 0)) o 0 false, .int .i64 l]
def vRh4 (k o : Nat) (l b i : Int) : List AV := [.sl (some (0, 0)) k 0 false, .sl (some (1, 0)) o 0 false, .sl (some (2, 0)) o 0 false, .int .i64 l, .int .i64 b, .int .i64 i]
def hRh (C L R : List AV) : AHeap := [.cells C 19 .far none, .cells L 1 .own none, .cells R 1 .own none]

noncomputable def hRh1a0 (C : List AV) (k : Nat) (n s i : Int) : AHeap := [ABlk.cells C 19 Md.far none]
theorem nfRh1a (C : List AV) (k : Nat) (n s i : Int) :
 qround Try.prog tRh 100 4 [(27, .bool true)] noT RH1 mRh1 (vRh1 k n s i) [.cells C 19 .far none] =
 (if decide (i < (k : Int)) = true then
 (if 0 ≤ i ∧ i < (k : Int) then
 (if isIntV i64 C[0 + i.toNat * 19 + 18]? = true then
 some ((AEx.norm, [AV.sl (some (0, 0)) k 0 false, int i64 n, int i64 (i64.wrap (s + intV C[0 + i.toNat * 19 + 18]?)), int i64 (i64.wrap (i + 1))], (hRh1a0 C k n s i)))
 else none) else none) else none) := by
  kernel_rfl

noncomputable def hRh1s0 (C : List AV) (k : Nat) (n s i : Int) : AHeap := [ABlk.cells C 19 Md.far none]
theorem nfRh1s (C : List AV) (k : Nat) (n s i : Int) :
 qround Try.prog tRh 100 4 [(27, .bool false)] noT RH1 mRh1 (vRh1 k n s i) [.cells C 19 .far none] =
 (if decide (i < (k : Int)) = false then
 some ((AEx.exit 0, [AV.sl (some (0, 0)) k 0 false, int i64 n, int i64 s, int i64 i], (hRh1s0 C k n s i)))
 else none) := by
  kernel_rfl

noncomputable def hRh2a0 (C L R : List AV) (k o : Nat) (n s l i : Int) : AHeap := [ABlk.cells C 19 Md.far none, ABlk.cells L 1 Md.ro none, ABlk.cells R 1 Md.ro none, cells [int i64 (i64.wrap ((i64.wrap (n * intV C[0 + i.toNat * 19 + 18]?)).tdiv s))] 1 Md.own none, cells (List.take (o * 1) L ++ [int i64 (i64.wrap ((i64.wrap (n * intV C[0 + i.toNat * 19 + 18]?)).tdiv s))]) 1 Md.own (some 1), cells [int i64 ((i64.wrap (n * intV C[0 + i.toNat * 19 + 18]?)).tmod s)] 1 Md.own none, cells (List.take (o * 1) R ++ [int i64 ((i64.wrap (n * intV C[0 + i.toNat * 19 + 18]?)).tmod s)]) 1 Md.own (some 2)]
theorem nfRh2a (C L R : List AV) (k o : Nat) (n s l i : Int) :
 qround Try.prog tRh 100 4 [(41, .bool true)] noT RH2 mRh2 (vRh2 k o n s l i) (hRh C L R) =
 (if decide (i < (k : Int)) = true then
 (if 0 ≤ i ∧ i < (k : Int) then
 (if isIntV i64 C[0 + i.toNat * 19 + 18]? = true then
 (if s = 0 then
 none
 else (if (2 * (o + 1) + 200) * 8 ≤ 281474976710656 ∧ some 1 = some 1 ∧ o + 1 ≤ 70368744177664 then
 (if 0 + o * 1 ≤ L.length then
 (if 0 = 0 ∧ 0 + o * 1 = L.length ∧ (0 < 1 ∨ 0 = 0) ∧ 1 = 1 ∧ [int i64 (i64.wrap ((i64.wrap (n * intV C[0 + i.toNat * 19 + 18]?)).tdiv s))].all AV.isCell = true then
 (if 0 ≤ i ∧ i < (k : Int) then
 (if isIntV i64 C[0 + i.toNat * 19 + 18]? = true then
 (if s = 0 then
 none
 else (if (2 * (o + 1) + 200) * 8 ≤ 281474976710656 ∧ some 1 = some 1 ∧ o + 1 ≤ 70368744177664 then
 (if 0 + o * 1 ≤ R.length then
 (if 0 = 0 ∧ 0 + o * 1 = R.length ∧ (0 < 1 ∨ 0 = 0) ∧ 1 = 1 ∧ [int i64 ((i64.wrap (n * intV C[0 + i.toNat * 19 + 18]?)).tmod s)].all AV.isCell = true then
 (if 0 ≤ i ∧ i < (((o + 1) : Nat) : Int) then
 (if isIntV i64 (List.take (o * 1) L ++ [int i64 (i64.wrap ((i64.wrap (n * intV C[0 + i.toNat * 19 + 18]?)).tdiv s))])[0 + i.toNat * 1]? = true then
 some ((AEx.norm, [AV.sl (some (0, 0)) k 0 false, int i64 n, int i64 s, AV.sl (some (4, 0)) (o + 1) 0 false, AV.sl (some (6, 0)) (o + 1) 0 false, int i64 (i64.wrap (l - intV (List.take (o * 1) L ++ [int i64 (i64.wrap ((i64.wrap (n * intV C[0 + i.toNat * 19 + 18]?)).tdiv s))])[0 + i.toNat * 1]?)), int i64 (i64.wrap (i + 1))], (hRh2a0 C L R k o n s l i)))
 else none) else none) else none) else none) else none))
 else none) else none) else none) else none) else none))
 else none) else none) else none) := by
  kernel_rfl

noncomputable def hRh2s0 (C L R : List AV) (k o : Nat) (n s l i : Int) : AHeap := [ABlk.cells C 19 Md.far none, ABlk.cells L 1 Md.own none, ABlk.cells R 1 Md.own none]
theorem nfRh2s (C L R : List AV) (k o : Nat) (n s l i : Int) :
 qround Try.prog tRh 100 4 [(41, .bool false)] noT RH2 mRh2 (vRh2 k o n s l i) (hRh C L R) =
 (if decide (i < (k : Int)) = false then
 some ((AEx.exit 2, [AV.sl (some (0, 0)) k 0 false, int i64 n, int i64 s, AV.sl (some (1, 0)) o 0 false, AV.sl (some (2, 0)) o 0 false, int i64 l, int i64 i], (hRh2s0 C L R k o n s l i)))
 else none) := by
  kernel_rfl

noncomputable def hRh3a0 (C L R : List AV) (k o : Nat) (l : Int) : AHeap := [ABlk.cells C 19 Md.far none, ABlk.cells L 1 Md.own none, ABlk.cells R 1 Md.own none]
noncomputable def hRh3a1 (C L R : List AV) (k o : Nat) (l : Int) : AHeap := [ABlk.cells C 19 Md.far none, cells (putCells L (0 + (opq (((bestI (ilOf (rowOf (hRh3a0 C L R k o l) (AV.sl (some (2, 0)) o 0 false)))) : Nat) : Int)).toNat * 1) [int i64 (i64.wrap (intV L[0 + (opq (((bestI (ilOf (rowOf (hRh3a0 C L R k o l) (AV.sl (some (2, 0)) o 0 false)))) : Nat) : Int)).toNat * 1]? + 1))]) 1 Md.own none, cells (putCells R (0 + (opq (((bestI (ilOf (rowOf (hRh3a0 C L R k o l) (AV.sl (some (2, 0)) o 0 false)))) : Nat) : Int)).toNat * 1) [int i64 (-1)]) 1 Md.own none]
theorem nfRh3a (C L R : List AV) (k o : Nat) (l : Int) :
 qround Try.prog tRh 100 4 [(80, .bool true)] lsRh RH3 mRh3 (vRh3 k o l) (hRh C L R) =
 (if decide (l > 0) = true then
 (if decide ((k : Int) > 0) = true then
 (if cdec (LSays bRh4 3 [AV.sl (some (0, 0)) k 0 false, AV.sl (some (1, 0)) o 0 false, AV.sl (some (2, 0)) o 0 false, int i64 l, int i64 0, int i64 1] (hRh3a0 C L R k o l) (AEx.exit 6) [AV.sl (some (0, 0)) k 0 false, AV.sl (some (1, 0)) o 0 false, AV.sl (some (2, 0)) o 0 false, int i64 l, int i64 (opq (((bestI (ilOf (rowOf (hRh3a0 C L R k o l) (AV.sl (some (2, 0)) o 0 false)))) : Nat) : Int)), int i64 (((nOf (AV.sl (some (0, 0)) k 0 false)) : Nat) : Int)] (hRh3a0 C L R k o l)) = true then
 (if 0 ≤ opq (((bestI (ilOf (rowOf (hRh3a0 C L R k o l) (AV.sl (some (2, 0)) o 0 false)))) : Nat) : Int) ∧ opq (((bestI (ilOf (rowOf (hRh3a0 C L R k o l) (AV.sl (some (2, 0)) o 0 false)))) : Nat) : Int) < (o : Int) then
 (if isIntV i64 L[0 + (opq (((bestI (ilOf (rowOf (hRh3a0 C L R k o l) (AV.sl (some (2, 0)) o 0 false)))) : Nat) : Int)).toNat * 1]? = true then
 (if 0 ≤ opq (((bestI (ilOf (rowOf (hRh3a0 C L R k o l) (AV.sl (some (2, 0)) o 0 false)))) : Nat) : Int) ∧ opq (((bestI (ilOf (rowOf (hRh3a0 C L R k o l) (AV.sl (some (2, 0)) o 0 false)))) : Nat) : Int) < (o : Int) then
 (if 0 + (opq (((bestI (ilOf (rowOf (hRh3a0 C L R k o l) (AV.sl (some (2, 0)) o 0 false)))) : Nat) : Int)).toNat * 1 + [int i64 (i64.wrap (intV L[0 + (opq (((bestI (ilOf (rowOf (hRh3a0 C L R k o l) (AV.sl (some (2, 0)) o 0 false)))) : Nat) : Int)).toNat * 1]? + 1))].length ≤ L.length ∧ [int i64 (i64.wrap (intV L[0 + (opq (((bestI (ilOf (rowOf (hRh3a0 C L R k o l) (AV.sl (some (2, 0)) o 0 false)))) : Nat) : Int)).toNat * 1]? + 1))].all AV.isCell = true then
 (if 0 ≤ opq (((bestI (ilOf (rowOf (hRh3a0 C L R k o l) (AV.sl (some (2, 0)) o 0 false)))) : Nat) : Int) ∧ opq (((bestI (ilOf (rowOf (hRh3a0 C L R k o l) (AV.sl (some (2, 0)) o 0 false)))) : Nat) : Int) < (o : Int) then
 (if 0 + (opq (((bestI (ilOf (rowOf (hRh3a0 C L R k o l) (AV.sl (some (2, 0)) o 0 false)))) : Nat) : Int)).toNat * 1 + [int i64 (-1)].length ≤ R.length ∧ [int i64 (-1)].all AV.isCell = true then
 some ((AEx.norm, [AV.sl (some (0, 0)) k 0 false, AV.sl (some (1, 0)) o 0 false, AV.sl (some (2, 0)) o 0 false, int i64 (i64.wrap (l - 1))], (hRh3a1 C L R k o l)))
 else none) else none) else none) else none) else none) else none) else none) else none) else none) := by
  kernel_rfl

noncomputable def hRh3s0 (C L R : List AV) (k o : Nat) (l : Int) : AHeap := [ABlk.cells C 19 Md.far none, ABlk.cells L 1 Md.own none, ABlk.cells R 1 Md.own none]
theorem nfRh3s (C L R : List AV) (k o : Nat) (l : Int) :
 qround Try.prog tRh 100 4 [(80, .bool false)] lsRh RH3 mRh3 (vRh3 k o l) (hRh C L R) =
 (if decide (l > 0) = true then
 (if decide ((k : Int) > 0) = false then
 some ((AEx.exit 4, [AV.sl (some (0, 0)) k 0 false, AV.sl (some (1, 0)) o 0 false, AV.sl (some (2, 0)) o 0 false, int i64 l], (hRh3s0 C L R k o l)))
 else none)
 else some ((AEx.exit 4, [AV.sl (some (0, 0)) k 0 false, AV.sl (some (1, 0)) o 0 false, AV.sl (some (2, 0)) o 0 false, int i64 l], (hRh3s0 C L R k o l)))) := by
  kernel_rfl

noncomputable def hRh4a0 (C L R : List AV) (k o : Nat) (l b i : Int) : AHeap := [ABlk.cells C 19 Md.far none, ABlk.cells L 1 Md.own none, ABlk.cells R 1 Md.own none]
theorem nfRh4a (C L R : List AV) (k o : Nat) (l b i : Int) :
 qround Try.prog tRh 100 4 [(84, .bool true), (95, .bool true)] noT RH4 mRh4 (vRh4 k o l b i) (hRh C L R) =
 (if decide (i < (k : Int)) = true then
 (if 0 ≤ i ∧ i < (o : Int) then
 (if isIntV i64 R[0 + i.toNat * 1]? = true then
 (if 0 ≤ b ∧ b < (o : Int) then
 (if isIntV i64 R[0 + b.toNat * 1]? = true then
 (if decide (intV R[0 + i.toNat * 1]? > intV R[0 + b.toNat * 1]?) = true then
 some ((AEx.norm, [AV.sl (some (0, 0)) k 0 false, AV.sl (some (1, 0)) o 0 false, AV.sl (some (2, 0)) o 0 false, int i64 l, int i64 i, int i64 (i64.wrap (i + 1))], (hRh4a0 C L R k o l b i)))
 else none) else none) else none) else none) else none) else none) := by
  kernel_rfl

noncomputable def hRh4b0 (C L R : List AV) (k o : Nat) (l b i : Int) : AHeap := [ABlk.cells C 19 Md.far none, ABlk.cells L 1 Md.own none, ABlk.cells R 1 Md.own none]
theorem nfRh4b (C L R : List AV) (k o : Nat) (l b i : Int) :
 qround Try.prog tRh 100 4 [(84, .bool true), (95, .bool false)] noT RH4 mRh4 (vRh4 k o l b i) (hRh C L R) =
 (if decide (i < (k : Int)) = true then
 (if 0 ≤ i ∧ i < (o : Int) then
 (if isIntV i64 R[0 + i.toNat * 1]? = true then
 (if 0 ≤ b ∧ b < (o : Int) then
 (if isIntV i64 R[0 + b.toNat * 1]? = true then
 (if decide (intV R[0 + i.toNat * 1]? > intV R[0 + b.toNat * 1]?) = false then
 some ((AEx.norm, [AV.sl (some (0, 0)) k 0 false, AV.sl (some (1, 0)) o 0 false, AV.sl (some (2, 0)) o 0 false, int i64 l, int i64 b, int i64 (i64.wrap (i + 1))], (hRh4b0 C L R k o l b i)))
 else none) else none) else none) else none) else none) else none) := by
  kernel_rfl

noncomputable def hRh4s0 (C L R : List AV) (k o : Nat) (l b i : Int) : AHeap := [ABlk.cells C 19 Md.far none, ABlk.cells L 1 Md.own none, ABlk.cells R 1 Md.own none]
theorem nfRh4s (C L R : List AV) (k o : Nat) (l b i : Int) :
 qround Try.prog tRh 100 4 [(84, .bool false)] noT RH4 mRh4 (vRh4 k o l b i) (hRh C L R) =
 (if decide (i < (k : Int)) = false then
 some ((AEx.exit 6, [AV.sl (some (0, 0)) k 0 false, AV.sl (some (1, 0)) o 0 false, AV.sl (some (2, 0)) o 0 false, int i64 l, int i64 b, int i64 i], (hRh4s0 C L R k o l b i)))
 else none) := by
  kernel_rfl

noncomputable def hRhl0 (C : List AV) (k : Nat) (n : Int) : AHeap := [ABlk.cells C 19 Md.far none]
theorem nfRhl {R : Type} (C : List AV) (k : Nat) (n : Int) (K : AV → AHeap → Option R) :
 qrun Try.prog tRh 100 4 [(23, .bool true)] [] 16 [.sl (some (0, 0)) k 0 false, .int .i64 n] [.cells C 19 .far none] K =
 (if cdec (rowP (hRhl0 C k n) (AV.sl (some (0, 0)) k 0 false) (plOf (rowOf (hRhl0 C k n) (AV.sl (some (0, 0)) k 0 false))) ∧ nOf (AV.sl (some (0, 0)) k 0 false) ≤ 1000000) = true then
 (if (!opq (decide (chkP (plOf (rowOf (hRhl0 C k n) (AV.sl (some (0, 0)) k 0 false))) = 0))) = true then
 K (AV.sl none 0 0 true) ((hRhl0 C k n))
 else (if decide (n < 0) = true then
 K (AV.sl none 0 0 true) ((hRhl0 C k n))
 else (if decide (n > 64) = true then
 K (AV.sl none 0 0 true) ((hRhl0 C k n))
 else none)))
 else none) := by
  kernel_rfl

noncomputable def hRhm0 (T : Type) (q1 q2 q3 : Prop) (C L R L2 R2 : List AV) (k o : Nat) (n s l l2 : Int) : AHeap := [ABlk.cells C 19 Md.far none]
noncomputable def hRhm1 (T : Type) (q1 q2 q3 : Prop) (C L R L2 R2 : List AV) (k o : Nat) (n s l l2 : Int) : AHeap := [ABlk.cells C 19 Md.far none, ABlk.cells L 1 Md.own none, ABlk.cells R 1 Md.own none]
noncomputable def hRhm2 (T : Type) (q1 q2 q3 : Prop) (C L R L2 R2 : List AV) (k o : Nat) (n s l l2 : Int) : AHeap := [ABlk.cells C 19 Md.far none, ABlk.cells L2 1 Md.own none, ABlk.cells R2 1 Md.own none]
theorem nfRhm (T : Type) (q1 q2 q3 : Prop) (C L R L2 R2 : List AV) (k o : Nat) (n s l l2 : Int) (K : AV → AHeap → Option T) :
 qrun Try.prog tRh 100 4 [(23, .bool false)] [(5, fixC q1 mRh1 (vRh1 k n 0 0) [.cells C 19 .far none] (.exit 0) (vRh1 k n s k) [.cells C 19 .far none]), (11, fixC q2 mRh2 (vRh2z k n s n 0) [.cells C 19 .far none] (.exit 2) (vRh2 k o n s l k) (hRh C L R)), (16, fixC q3 mRh3 (vRh3 k o l) (hRh C L R) (.exit 4) (vRh3 k o l2) (hRh C L2 R2))] 16 [.sl (some (0, 0)) k 0 false, .int .i64 n] [.cells C 19 .far none] K =
 (if cdec (rowP (hRhm0 T q1 q2 q3 C L R L2 R2 k o n s l l2) (AV.sl (some (0, 0)) k 0 false) (plOf (rowOf (hRhm0 T q1 q2 q3 C L R L2 R2 k o n s l l2) (AV.sl (some (0, 0)) k 0 false))) ∧ nOf (AV.sl (some (0, 0)) k 0 false) ≤ 1000000) = true then
 (if (!opq (decide (chkP (plOf (rowOf (hRhm0 T q1 q2 q3 C L R L2 R2 k o n s l l2) (AV.sl (some (0, 0)) k 0 false))) = 0))) = true then
 none
 else (if decide (n < 0) = true then
 none
 else (if decide (n > 64) = false then
 (if cdec (q1 ∧ [AV.sl (some (0, 0)) k 0 false, int i64 n, int i64 0, int i64 0] = [AV.sl (some (0, 0)) k 0 false, int i64 n, int i64 0, int i64 0] ∧ (hRhm0 T q1 q2 q3 C L R L2 R2 k o n s l l2) = (hRhm0 T q1 q2 q3 C L R L2 R2 k o n s l l2)) = true then
 (if cdec (q2 ∧ [AV.sl (some (0, 0)) k 0 false, int i64 n, int i64 s, AV.sl none 0 0 true, AV.sl none 0 0 true, int i64 n, int i64 0] = [AV.sl (some (0, 0)) k 0 false, int i64 n, int i64 s, AV.sl none 0 0 true, AV.sl none 0 0 true, int i64 n, int i64 0] ∧ (hRhm0 T q1 q2 q3 C L R L2 R2 k o n s l l2) = (hRhm0 T q1 q2 q3 C L R L2 R2 k o n s l l2)) = true then
 (if cdec (q3 ∧ [AV.sl (some (0, 0)) k 0 false, AV.sl (some (1, 0)) o 0 false, AV.sl (some (2, 0)) o 0 false, int i64 l] = [AV.sl (some (0, 0)) k 0 false, AV.sl (some (1, 0)) o 0 false, AV.sl (some (2, 0)) o 0 false, int i64 l] ∧ (hRhm1 T q1 q2 q3 C L R L2 R2 k o n s l l2) = (hRhm1 T q1 q2 q3 C L R L2 R2 k o n s l l2)) = true then
 K (AV.sl (some (1, 0)) o 0 false) ((hRhm2 T q1 q2 q3 C L R L2 R2 k o n s l l2))
 else none) else none) else none) else none)))
 else none) := by
  kernel_rfl


end Go.Proofs.Ytlppbeoiphglcaa.L
