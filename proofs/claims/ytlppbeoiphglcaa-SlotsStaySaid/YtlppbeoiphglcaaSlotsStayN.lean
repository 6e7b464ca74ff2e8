/- SlotsStay: its rows. -/
import Derived.Test.YtlppbeoiphglcaaShE
import Derived.Test.YtlppbeoiphglcaaAwake17
set_option autoImplicit false
set_option maxRecDepth 100000
set_option linter.unusedVariables false
set_option linter.unusedSimpArgs false
namespace Go.Proofs.Ytlppbeoiphglcaa.L
open Go Go.Abs
open Go.IntKind
open Go.Abs.AV (int)
open Go.Abs.ABlk (cells)

noncomputable abbrev ST1 := loopIn (bodyOf Try.prog 5) 0
noncomputable abbrev ST2 := loopIn ST1 0
def mST1 : List Bool := List.replicate 3 false ++ List.replicate 1 true ++ List.replicate 6 false ++ List.replicate 1 true ++ List.replicate 1 false ++ List.replicate 1 true ++ List.replicate 1 false ++ List.replicate 1 true ++ List.replicate 1 false ++ List.replicate 2 true ++ List.replicate 155 false
def mST2 : List Bool := List.replicate 3 false ++ List.replicate 1 true ++ List.replicate 6 false ++ List.replicate 1 true ++ List.replicate 1 false ++ List.replicate 1 true ++ List.replicate 1 false ++ List.replicate 1 true ++ List.replicate 1 false ++ List.replicate 5 true ++ List.replicate 152 false
noncomputable def tST (P Q : PL) (X Y : List DipC) (m q x y kx ky : Nat) (e f : Int) : Tbl := [(20, entF (eRel SvR [(2, .sl (some (2, 0)) m 0 false, [.cells (itP P) 19 .own none]), (3, .sl (some (3, 0)) q 0 false, [.cells (itP Q) 19 .own none])])), (22, entF eRound), (10, entF (eRel FlR [(kx, .tup [.sl (some (kx, 0)) x 0 false, .int .i64 e], [.cells (dipsC X) 18 .own none]), (ky, .tup [.sl (some (ky, 0)) y 0 false, .int .i64 f], [.cells (dipsC Y) 18 .own none])])), (18, entF (eRelI MvR)), (21, entF (eRelI CnR)), (9, entF eAwake)]
noncomputable abbrev tSTL : Tbl := tST [] [] [] [] 0 0 0 0 0 0 0 0
theorem tSTOk (P Q : PL) (X Y : List DipC) (m q x y kx ky : Nat) (e f : Int) : ∀ a E, (tST P Q X Y m q x y kx ky e f).find a = some E → SoundE Try.prog a E := find_cons (sSv _) (find_cons sRound (find_cons (sFl _) (find_cons sMvI (find_cons sCnI (find_cons sAwake (find_nil _))))))
noncomputable def tellST (vs : List AV) (h : AHeap) : List AV × AHeap := match vs with
  | [.int .i64 n, o, a, b, g, i, .int .i64 had, .int .i64 now, j] => ([.int .i64 n, o, a, b, g, i, .int .i64 had, .int .i64 now, .int .i64 (opq (if now ≥ had then n else 0))], h)
  | _ => (vs, h)
noncomputable abbrev bST2 := roundG Try.prog (deepT Try.prog tSTL 100 4) (lsT noT) ST2 mST2
noncomputable def lsST : LoopTT := mixT [(19, fixS bST2 mST2 (.exit 2) tellST)] noT
theorem lsSTOk : LoopsOk Try.prog (lsT lsST) ST1 := by
  unfold lsST
  rw [mixT_ls]
  have hl : loopsOf ST1 = [ST2] := by kernel_rfl
  intro b hb s hs
  rw [hl] at hb
  simp only [List.mem_cons, List.not_mem_nil, or_false] at hb
  unfold mixLS at hs
  subst hb
  rw [show firstReg ST2 = 19 by kernel_rfl] at hs
  simp only [lsOf, if_true] at hs
  cases hs
  exact fixS_sound (tSTOk _ _ _ _ _ _ _ _ _ _ _ _) (noLoops (by kernel_rfl))

def vSTA1 (n : Int) (k x y : Nat) (g i : Int) : List AV := [.int .i64 n, .sl (some (3, 0)) k 0 false, .sl (some (4, 0)) x 0 false, .sl (some (5, 0)) y 0 false, .int .i64 g, .int .i64 i]
def vSTA2 (n : Int) (k x y : Nat) (g i u w j : Int) : List AV := [.int .i64 n, .sl (some (3, 0)) k 0 false, .sl (some (4, 0)) x 0 false, .sl (some (5, 0)) y 0 false, .int .i64 g, .int .i64 i, .int .i64 u, .int .i64 w, .int .i64 j]
def hSTA (B0 B1 B2 : ABlk) (C X Y : List AV) : AHeap := [B0, B1, B2, .cells C 19 .own none, .cells X 18 .own none, .cells Y 18 .own none]

noncomputable def hSTA1a0 (B0 B1 B2 : ABlk) (C X Y : List AV) (n : Int) (k x y : Nat) (g i : Int) : AHeap := [B0, B1, B2, ABlk.cells C 19 Md.own none, ABlk.cells X 18 Md.own none, ABlk.cells Y 18 Md.own none]
noncomputable def hSTA1a1 (B0 B1 B2 : ABlk) (C X Y : List AV) (n : Int) (k x y : Nat) (g i : Int) : AHeap := []
theorem nfSTA1a (B0 B1 B2 : ABlk) (C X Y : List AV) (n : Int) (k x y : Nat) (g i : Int) :
 qround Try.prog tSTL 100 4 [(110, .bool true)] lsST ST1 mST1 (vSTA1 n k x y g i) (hSTA B0 B1 B2 C X Y) =
 (if decide (i < (k : Int)) = true then
 (if 0 ≤ i ∧ i < (k : Int) then
 (if 0 + i.toNat * 19 + 0 + 18 ≤ C.length then
 (if cdec (CnR [AV.sl (some (4, 0)) x 0 false, AV.agg (List.take 18 (List.drop (0 + i.toNat * 19 + 0) C))] (hSTA1a0 B0 B1 B2 C X Y n k x y g i) (int i64 (intC CnR [AV.sl (some (4, 0)) x 0 false, AV.agg (List.take 18 (List.drop (0 + i.toNat * 19 + 0) C))] (hSTA1a0 B0 B1 B2 C X Y n k x y g i))) (hSTA1a1 B0 B1 B2 C X Y n k x y g i)) = true then
 (if 0 ≤ i ∧ i < (k : Int) then
 (if 0 + i.toNat * 19 + 0 + 18 ≤ C.length then
 (if cdec (CnR [AV.sl (some (5, 0)) y 0 false, AV.agg (List.take 18 (List.drop (0 + i.toNat * 19 + 0) C))] (hSTA1a0 B0 B1 B2 C X Y n k x y g i) (int i64 (intC CnR [AV.sl (some (5, 0)) y 0 false, AV.agg (List.take 18 (List.drop (0 + i.toNat * 19 + 0) C))] (hSTA1a0 B0 B1 B2 C X Y n k x y g i))) (hSTA1a1 B0 B1 B2 C X Y n k x y g i)) = true then
 (if 0 + i.toNat * 19 + 0 + 18 ≤ C.length then
 (if (AV.agg (List.take 18 (List.drop (0 + i.toNat * 19 + 0) C))).beq (AV.agg (List.take 18 (List.drop (0 + i.toNat * 19 + 0) C))) = true then
 (if cdec (LSays bST2 6 [int i64 n, AV.sl (some (3, 0)) k 0 false, AV.sl (some (4, 0)) x 0 false, AV.sl (some (5, 0)) y 0 false, int i64 (i64.wrap (g + if true = true then if 0 > i64.wrap (intC CnR [AV.sl (some (5, 0)) y 0 false, AV.agg (List.take 18 (List.drop (0 + i.toNat * 19 + 0) C))] (hSTA1a0 B0 B1 B2 C X Y n k x y g i) - intC CnR [AV.sl (some (4, 0)) x 0 false, AV.agg (List.take 18 (List.drop (0 + i.toNat * 19 + 0) C))] (hSTA1a0 B0 B1 B2 C X Y n k x y g i)) then 0 else i64.wrap (intC CnR [AV.sl (some (5, 0)) y 0 false, AV.agg (List.take 18 (List.drop (0 + i.toNat * 19 + 0) C))] (hSTA1a0 B0 B1 B2 C X Y n k x y g i) - intC CnR [AV.sl (some (4, 0)) x 0 false, AV.agg (List.take 18 (List.drop (0 + i.toNat * 19 + 0) C))] (hSTA1a0 B0 B1 B2 C X Y n k x y g i)) else if 0 < i64.wrap (intC CnR [AV.sl (some (5, 0)) y 0 false, AV.agg (List.take 18 (List.drop (0 + i.toNat * 19 + 0) C))] (hSTA1a0 B0 B1 B2 C X Y n k x y g i) - intC CnR [AV.sl (some (4, 0)) x 0 false, AV.agg (List.take 18 (List.drop (0 + i.toNat * 19 + 0) C))] (hSTA1a0 B0 B1 B2 C X Y n k x y g i)) then 0 else i64.wrap (intC CnR [AV.sl (some (5, 0)) y 0 false, AV.agg (List.take 18 (List.drop (0 + i.toNat * 19 + 0) C))] (hSTA1a0 B0 B1 B2 C X Y n k x y g i) - intC CnR [AV.sl (some (4, 0)) x 0 false, AV.agg (List.take 18 (List.drop (0 + i.toNat * 19 + 0) C))] (hSTA1a0 B0 B1 B2 C X Y n k x y g i)))), int i64 i, int i64 (intC CnR [AV.sl (some (4, 0)) x 0 false, AV.agg (List.take 18 (List.drop (0 + i.toNat * 19 + 0) C))] (hSTA1a0 B0 B1 B2 C X Y n k x y g i)), int i64 (intC CnR [AV.sl (some (5, 0)) y 0 false, AV.agg (List.take 18 (List.drop (0 + i.toNat * 19 + 0) C))] (hSTA1a0 B0 B1 B2 C X Y n k x y g i)), int i64 0] (hSTA1a0 B0 B1 B2 C X Y n k x y g i) (AEx.exit 2) [int i64 n, AV.sl (some (3, 0)) k 0 false, AV.sl (some (4, 0)) x 0 false, AV.sl (some (5, 0)) y 0 false, int i64 (i64.wrap (g + if true = true then if 0 > i64.wrap (intC CnR [AV.sl (some (5, 0)) y 0 false, AV.agg (List.take 18 (List.drop (0 + i.toNat * 19 + 0) C))] (hSTA1a0 B0 B1 B2 C X Y n k x y g i) - intC CnR [AV.sl (some (4, 0)) x 0 false, AV.agg (List.take 18 (List.drop (0 + i.toNat * 19 + 0) C))] (hSTA1a0 B0 B1 B2 C X Y n k x y g i)) then 0 else i64.wrap (intC CnR [AV.sl (some (5, 0)) y 0 false, AV.agg (List.take 18 (List.drop (0 + i.toNat * 19 + 0) C))] (hSTA1a0 B0 B1 B2 C X Y n k x y g i) - intC CnR [AV.sl (some (4, 0)) x 0 false, AV.agg (List.take 18 (List.drop (0 + i.toNat * 19 + 0) C))] (hSTA1a0 B0 B1 B2 C X Y n k x y g i)) else if 0 < i64.wrap (intC CnR [AV.sl (some (5, 0)) y 0 false, AV.agg (List.take 18 (List.drop (0 + i.toNat * 19 + 0) C))] (hSTA1a0 B0 B1 B2 C X Y n k x y g i) - intC CnR [AV.sl (some (4, 0)) x 0 false, AV.agg (List.take 18 (List.drop (0 + i.toNat * 19 + 0) C))] (hSTA1a0 B0 B1 B2 C X Y n k x y g i)) then 0 else i64.wrap (intC CnR [AV.sl (some (5, 0)) y 0 false, AV.agg (List.take 18 (List.drop (0 + i.toNat * 19 + 0) C))] (hSTA1a0 B0 B1 B2 C X Y n k x y g i) - intC CnR [AV.sl (some (4, 0)) x 0 false, AV.agg (List.take 18 (List.drop (0 + i.toNat * 19 + 0) C))] (hSTA1a0 B0 B1 B2 C X Y n k x y g i)))), int i64 i, int i64 (intC CnR [AV.sl (some (4, 0)) x 0 false, AV.agg (List.take 18 (List.drop (0 + i.toNat * 19 + 0) C))] (hSTA1a0 B0 B1 B2 C X Y n k x y g i)), int i64 (intC CnR [AV.sl (some (5, 0)) y 0 false, AV.agg (List.take 18 (List.drop (0 + i.toNat * 19 + 0) C))] (hSTA1a0 B0 B1 B2 C X Y n k x y g i)), int i64 (opq (if intC CnR [AV.sl (some (5, 0)) y 0 false, AV.agg (List.take 18 (List.drop (0 + i.toNat * 19 + 0) C))] (hSTA1a0 B0 B1 B2 C X Y n k x y g i) ≥ intC CnR [AV.sl (some (4, 0)) x 0 false, AV.agg (List.take 18 (List.drop (0 + i.toNat * 19 + 0) C))] (hSTA1a0 B0 B1 B2 C X Y n k x y g i) then n else 0))] (hSTA1a0 B0 B1 B2 C X Y n k x y g i)) = true then
 some ((AEx.norm, [int i64 n, AV.sl (some (3, 0)) k 0 false, AV.sl (some (4, 0)) x 0 false, AV.sl (some (5, 0)) y 0 false, int i64 (i64.wrap (g + if true = true then if 0 > i64.wrap (intC CnR [AV.sl (some (5, 0)) y 0 false, AV.agg (List.take 18 (List.drop (0 + i.toNat * 19 + 0) C))] (hSTA1a0 B0 B1 B2 C X Y n k x y g i) - intC CnR [AV.sl (some (4, 0)) x 0 false, AV.agg (List.take 18 (List.drop (0 + i.toNat * 19 + 0) C))] (hSTA1a0 B0 B1 B2 C X Y n k x y g i)) then 0 else i64.wrap (intC CnR [AV.sl (some (5, 0)) y 0 false, AV.agg (List.take 18 (List.drop (0 + i.toNat * 19 + 0) C))] (hSTA1a0 B0 B1 B2 C X Y n k x y g i) - intC CnR [AV.sl (some (4, 0)) x 0 false, AV.agg (List.take 18 (List.drop (0 + i.toNat * 19 + 0) C))] (hSTA1a0 B0 B1 B2 C X Y n k x y g i)) else if 0 < i64.wrap (intC CnR [AV.sl (some (5, 0)) y 0 false, AV.agg (List.take 18 (List.drop (0 + i.toNat * 19 + 0) C))] (hSTA1a0 B0 B1 B2 C X Y n k x y g i) - intC CnR [AV.sl (some (4, 0)) x 0 false, AV.agg (List.take 18 (List.drop (0 + i.toNat * 19 + 0) C))] (hSTA1a0 B0 B1 B2 C X Y n k x y g i)) then 0 else i64.wrap (intC CnR [AV.sl (some (5, 0)) y 0 false, AV.agg (List.take 18 (List.drop (0 + i.toNat * 19 + 0) C))] (hSTA1a0 B0 B1 B2 C X Y n k x y g i) - intC CnR [AV.sl (some (4, 0)) x 0 false, AV.agg (List.take 18 (List.drop (0 + i.toNat * 19 + 0) C))] (hSTA1a0 B0 B1 B2 C X Y n k x y g i)))), int i64 (i64.wrap (i + 1))], (hSTA1a0 B0 B1 B2 C X Y n k x y g i)))
 else none) else none) else none) else none) else none) else none) else none) else none) else none) else none) := by
  kernel_rfl

noncomputable def hSTA1s0 (B0 B1 B2 : ABlk) (C X Y : List AV) (n : Int) (k x y : Nat) (g i : Int) : AHeap := [B0, B1, B2, ABlk.cells C 19 Md.own none, ABlk.cells X 18 Md.own none, ABlk.cells Y 18 Md.own none]
theorem nfSTA1s (B0 B1 B2 : ABlk) (C X Y : List AV) (n : Int) (k x y : Nat) (g i : Int) :
 qround Try.prog tSTL 100 4 [(110, .bool false)] lsST ST1 mST1 (vSTA1 n k x y g i) (hSTA B0 B1 B2 C X Y) =
 (if decide (i < (k : Int)) = false then
 some ((AEx.exit 0, [int i64 n, AV.sl (some (3, 0)) k 0 false, AV.sl (some (4, 0)) x 0 false, AV.sl (some (5, 0)) y 0 false, int i64 g, int i64 i], (hSTA1s0 B0 B1 B2 C X Y n k x y g i)))
 else none) := by
  kernel_rfl

noncomputable def hSTA2a0 (B0 B1 B2 : ABlk) (C X Y : List AV) (n : Int) (k x y : Nat) (g i u w j : Int) : AHeap := [B0, B1, B2, ABlk.cells C 19 Md.own none, ABlk.cells X 18 Md.own none, ABlk.cells Y 18 Md.own none]
theorem nfSTA2a (B0 B1 B2 : ABlk) (C X Y : List AV) (n : Int) (k x y : Nat) (g i u w j : Int) :
 qround Try.prog tSTL 100 4 [(140, .bool true), (164, .bool false)] noT ST2 mST2 (vSTA2 n k x y g i u w j) (hSTA B0 B1 B2 C X Y) =
 (if decide (j < n) = true then
 (if decide (w ≥ u) = true then
 (if 0 ≤ j ∧ j < (x : Int) then
 (if 0 + j.toNat * 18 + 18 ≤ X.length then
 (if 0 ≤ i ∧ i < (k : Int) then
 (if 0 + i.toNat * 19 + 0 + 18 ≤ C.length then
 (if 17 ≤ (List.take 18 (List.drop (0 + j.toNat * 18) X)).length then
 (if 17 ≤ (List.take 18 (List.drop (0 + i.toNat * 19 + 0) C)).length then
 (if isBoolV (List.take 17 (List.take 18 (List.drop (0 + j.toNat * 18) X)))[0]? = true then
 (if isBoolV (List.take 17 (List.take 18 (List.drop (0 + i.toNat * 19 + 0) C)))[0]? = true then
 (if 17 ≤ (List.take 17 (List.take 18 (List.drop (0 + j.toNat * 18) X))).length then
 (if 17 ≤ (List.take 17 (List.take 18 (List.drop (0 + i.toNat * 19 + 0) C))).length then
 (if isIntV u8 (List.take 16 (List.drop 1 (List.take 17 (List.take 18 (List.drop (0 + j.toNat * 18) X)))))[0]? = true then
 (if isIntV u8 (List.take 16 (List.drop 1 (List.take 17 (List.take 18 (List.drop (0 + i.toNat * 19 + 0) C)))))[0]? = true then
 (if isIntV u8 (List.take 16 (List.drop 1 (List.take 17 (List.take 18 (List.drop (0 + j.toNat * 18) X)))))[1]? = true then
 (if isIntV u8 (List.take 16 (List.drop 1 (List.take 17 (List.take 18 (List.drop (0 + i.toNat * 19 + 0) C)))))[1]? = true then
 (if isIntV u8 (List.take 16 (List.drop 1 (List.take 17 (List.take 18 (List.drop (0 + j.toNat * 18) X)))))[2]? = true then
 (if isIntV u8 (List.take 16 (List.drop 1 (List.take 17 (List.take 18 (List.drop (0 + i.toNat * 19 + 0) C)))))[2]? = true then
 (if isIntV u8 (List.take 16 (List.drop 1 (List.take 17 (List.take 18 (List.drop (0 + j.toNat * 18) X)))))[3]? = true then
 (if isIntV u8 (List.take 16 (List.drop 1 (List.take 17 (List.take 18 (List.drop (0 + i.toNat * 19 + 0) C)))))[3]? = true then
 (if isIntV u8 (List.take 16 (List.drop 1 (List.take 17 (List.take 18 (List.drop (0 + j.toNat * 18) X)))))[4]? = true then
 (if isIntV u8 (List.take 16 (List.drop 1 (List.take 17 (List.take 18 (List.drop (0 + i.toNat * 19 + 0) C)))))[4]? = true then
 (if isIntV u8 (List.take 16 (List.drop 1 (List.take 17 (List.take 18 (List.drop (0 + j.toNat * 18) X)))))[5]? = true then
 (if isIntV u8 (List.take 16 (List.drop 1 (List.take 17 (List.take 18 (List.drop (0 + i.toNat * 19 + 0) C)))))[5]? = true then
 (if isIntV u8 (List.take 16 (List.drop 1 (List.take 17 (List.take 18 (List.drop (0 + j.toNat * 18) X)))))[6]? = true then
 (if isIntV u8 (List.take 16 (List.drop 1 (List.take 17 (List.take 18 (List.drop (0 + i.toNat * 19 + 0) C)))))[6]? = true then
 (if isIntV u8 (List.take 16 (List.drop 1 (List.take 17 (List.take 18 (List.drop (0 + j.toNat * 18) X)))))[7]? = true then
 (if isIntV u8 (List.take 16 (List.drop 1 (List.take 17 (List.take 18 (List.drop (0 + i.toNat * 19 + 0) C)))))[7]? = true then
 (if isIntV u8 (List.take 16 (List.drop 1 (List.take 17 (List.take 18 (List.drop (0 + j.toNat * 18) X)))))[8]? = true then
 (if isIntV u8 (List.take 16 (List.drop 1 (List.take 17 (List.take 18 (List.drop (0 + i.toNat * 19 + 0) C)))))[8]? = true then
 (if isIntV u8 (List.take 16 (List.drop 1 (List.take 17 (List.take 18 (List.drop (0 + j.toNat * 18) X)))))[9]? = true then
 (if isIntV u8 (List.take 16 (List.drop 1 (List.take 17 (List.take 18 (List.drop (0 + i.toNat * 19 + 0) C)))))[9]? = true then
 (if isIntV u8 (List.take 16 (List.drop 1 (List.take 17 (List.take 18 (List.drop (0 + j.toNat * 18) X)))))[10]? = true then
 (if isIntV u8 (List.take 16 (List.drop 1 (List.take 17 (List.take 18 (List.drop (0 + i.toNat * 19 + 0) C)))))[10]? = true then
 (if isIntV u8 (List.take 16 (List.drop 1 (List.take 17 (List.take 18 (List.drop (0 + j.toNat * 18) X)))))[11]? = true then
 (if isIntV u8 (List.take 16 (List.drop 1 (List.take 17 (List.take 18 (List.drop (0 + i.toNat * 19 + 0) C)))))[11]? = true then
 (if isIntV u8 (List.take 16 (List.drop 1 (List.take 17 (List.take 18 (List.drop (0 + j.toNat * 18) X)))))[12]? = true then
 (if isIntV u8 (List.take 16 (List.drop 1 (List.take 17 (List.take 18 (List.drop (0 + i.toNat * 19 + 0) C)))))[12]? = true then
 (if isIntV u8 (List.take 16 (List.drop 1 (List.take 17 (List.take 18 (List.drop (0 + j.toNat * 18) X)))))[13]? = true then
 (if isIntV u8 (List.take 16 (List.drop 1 (List.take 17 (List.take 18 (List.drop (0 + i.toNat * 19 + 0) C)))))[13]? = true then
 (if isIntV u8 (List.take 16 (List.drop 1 (List.take 17 (List.take 18 (List.drop (0 + j.toNat * 18) X)))))[14]? = true then
 (if isIntV u8 (List.take 16 (List.drop 1 (List.take 17 (List.take 18 (List.drop (0 + i.toNat * 19 + 0) C)))))[14]? = true then
 (if isIntV u8 (List.take 16 (List.drop 1 (List.take 17 (List.take 18 (List.drop (0 + j.toNat * 18) X)))))[15]? = true then
 (if isIntV u8 (List.take 16 (List.drop 1 (List.take 17 (List.take 18 (List.drop (0 + i.toNat * 19 + 0) C)))))[15]? = true then
 (if isIntV u16 (List.take 18 (List.drop (0 + j.toNat * 18) X))[17]? = true then
 (if isIntV u16 (List.take 18 (List.drop (0 + i.toNat * 19 + 0) C))[17]? = true then
 (if (boolV (List.take 17 (List.take 18 (List.drop (0 + j.toNat * 18) X)))[0]? == boolV (List.take 17 (List.take 18 (List.drop (0 + i.toNat * 19 + 0) C)))[0]? && (intV (List.take 16 (List.drop 1 (List.take 17 (List.take 18 (List.drop (0 + j.toNat * 18) X)))))[0]? == intV (List.take 16 (List.drop 1 (List.take 17 (List.take 18 (List.drop (0 + i.toNat * 19 + 0) C)))))[0]? && (intV (List.take 16 (List.drop 1 (List.take 17 (List.take 18 (List.drop (0 + j.toNat * 18) X)))))[1]? == intV (List.take 16 (List.drop 1 (List.take 17 (List.take 18 (List.drop (0 + i.toNat * 19 + 0) C)))))[1]? && (intV (List.take 16 (List.drop 1 (List.take 17 (List.take 18 (List.drop (0 + j.toNat * 18) X)))))[2]? == intV (List.take 16 (List.drop 1 (List.take 17 (List.take 18 (List.drop (0 + i.toNat * 19 + 0) C)))))[2]? && (intV (List.take 16 (List.drop 1 (List.take 17 (List.take 18 (List.drop (0 + j.toNat * 18) X)))))[3]? == intV (List.take 16 (List.drop 1 (List.take 17 (List.take 18 (List.drop (0 + i.toNat * 19 + 0) C)))))[3]? && (intV (List.take 16 (List.drop 1 (List.take 17 (List.take 18 (List.drop (0 + j.toNat * 18) X)))))[4]? == intV (List.take 16 (List.drop 1 (List.take 17 (List.take 18 (List.drop (0 + i.toNat * 19 + 0) C)))))[4]? && (intV (List.take 16 (List.drop 1 (List.take 17 (List.take 18 (List.drop (0 + j.toNat * 18) X)))))[5]? == intV (List.take 16 (List.drop 1 (List.take 17 (List.take 18 (List.drop (0 + i.toNat * 19 + 0) C)))))[5]? && (intV (List.take 16 (List.drop 1 (List.take 17 (List.take 18 (List.drop (0 + j.toNat * 18) X)))))[6]? == intV (List.take 16 (List.drop 1 (List.take 17 (List.take 18 (List.drop (0 + i.toNat * 19 + 0) C)))))[6]? && (intV (List.take 16 (List.drop 1 (List.take 17 (List.take 18 (List.drop (0 + j.toNat * 18) X)))))[7]? == intV (List.take 16 (List.drop 1 (List.take 17 (List.take 18 (List.drop (0 + i.toNat * 19 + 0) C)))))[7]? && (intV (List.take 16 (List.drop 1 (List.take 17 (List.take 18 (List.drop (0 + j.toNat * 18) X)))))[8]? == intV (List.take 16 (List.drop 1 (List.take 17 (List.take 18 (List.drop (0 + i.toNat * 19 + 0) C)))))[8]? && (intV (List.take 16 (List.drop 1 (List.take 17 (List.take 18 (List.drop (0 + j.toNat * 18) X)))))[9]? == intV (List.take 16 (List.drop 1 (List.take 17 (List.take 18 (List.drop (0 + i.toNat * 19 + 0) C)))))[9]? && (intV (List.take 16 (List.drop 1 (List.take 17 (List.take 18 (List.drop (0 + j.toNat * 18) X)))))[10]? == intV (List.take 16 (List.drop 1 (List.take 17 (List.take 18 (List.drop (0 + i.toNat * 19 + 0) C)))))[10]? && (intV (List.take 16 (List.drop 1 (List.take 17 (List.take 18 (List.drop (0 + j.toNat * 18) X)))))[11]? == intV (List.take 16 (List.drop 1 (List.take 17 (List.take 18 (List.drop (0 + i.toNat * 19 + 0) C)))))[11]? && (intV (List.take 16 (List.drop 1 (List.take 17 (List.take 18 (List.drop (0 + j.toNat * 18) X)))))[12]? == intV (List.take 16 (List.drop 1 (List.take 17 (List.take 18 (List.drop (0 + i.toNat * 19 + 0) C)))))[12]? && (intV (List.take 16 (List.drop 1 (List.take 17 (List.take 18 (List.drop (0 + j.toNat * 18) X)))))[13]? == intV (List.take 16 (List.drop 1 (List.take 17 (List.take 18 (List.drop (0 + i.toNat * 19 + 0) C)))))[13]? && (intV (List.take 16 (List.drop 1 (List.take 17 (List.take 18 (List.drop (0 + j.toNat * 18) X)))))[14]? == intV (List.take 16 (List.drop 1 (List.take 17 (List.take 18 (List.drop (0 + i.toNat * 19 + 0) C)))))[14]? && (intV (List.take 16 (List.drop 1 (List.take 17 (List.take 18 (List.drop (0 + j.toNat * 18) X)))))[15]? == intV (List.take 16 (List.drop 1 (List.take 17 (List.take 18 (List.drop (0 + i.toNat * 19 + 0) C)))))[15]? && true))))))))))))))) && true) && (intV (List.take 18 (List.drop (0 + j.toNat * 18) X))[17]? == intV (List.take 18 (List.drop (0 + i.toNat * 19 + 0) C))[17]? && true)) = true then
 (if 0 ≤ j ∧ j < (y : Int) then
 (if 0 + j.toNat * 18 + 18 ≤ Y.length then
 (if 0 ≤ i ∧ i < (k : Int) then
 (if 0 + i.toNat * 19 + 0 + 18 ≤ C.length then
 (if 17 ≤ (List.take 18 (List.drop (0 + j.toNat * 18) Y)).length then
 (if 17 ≤ (List.take 18 (List.drop (0 + i.toNat * 19 + 0) C)).length then
 (if isBoolV (List.take 17 (List.take 18 (List.drop (0 + j.toNat * 18) Y)))[0]? = true then
 (if isBoolV (List.take 17 (List.take 18 (List.drop (0 + i.toNat * 19 + 0) C)))[0]? = true then
 (if 17 ≤ (List.take 17 (List.take 18 (List.drop (0 + j.toNat * 18) Y))).length then
 (if 17 ≤ (List.take 17 (List.take 18 (List.drop (0 + i.toNat * 19 + 0) C))).length then
 (if isIntV u8 (List.take 16 (List.drop 1 (List.take 17 (List.take 18 (List.drop (0 + j.toNat * 18) Y)))))[0]? = true then
 (if isIntV u8 (List.take 16 (List.drop 1 (List.take 17 (List.take 18 (List.drop (0 + i.toNat * 19 + 0) C)))))[0]? = true then
 (if isIntV u8 (List.take 16 (List.drop 1 (List.take 17 (List.take 18 (List.drop (0 + j.toNat * 18) Y)))))[1]? = true then
 (if isIntV u8 (List.take 16 (List.drop 1 (List.take 17 (List.take 18 (List.drop (0 + i.toNat * 19 + 0) C)))))[1]? = true then
 (if isIntV u8 (List.take 16 (List.drop 1 (List.take 17 (List.take 18 (List.drop (0 + j.toNat * 18) Y)))))[2]? = true then
 (if isIntV u8 (List.take 16 (List.drop 1 (List.take 17 (List.take 18 (List.drop (0 + i.toNat * 19 + 0) C)))))[2]? = true then
 (if isIntV u8 (List.take 16 (List.drop 1 (List.take 17 (List.take 18 (List.drop (0 + j.toNat * 18) Y)))))[3]? = true then
 (if isIntV u8 (List.take 16 (List.drop 1 (List.take 17 (List.take 18 (List.drop (0 + i.toNat * 19 + 0) C)))))[3]? = true then
 (if isIntV u8 (List.take 16 (List.drop 1 (List.take 17 (List.take 18 (List.drop (0 + j.toNat * 18) Y)))))[4]? = true then
 (if isIntV u8 (List.take 16 (List.drop 1 (List.take 17 (List.take 18 (List.drop (0 + i.toNat * 19 + 0) C)))))[4]? = true then
 (if isIntV u8 (List.take 16 (List.drop 1 (List.take 17 (List.take 18 (List.drop (0 + j.toNat * 18) Y)))))[5]? = true then
 (if isIntV u8 (List.take 16 (List.drop 1 (List.take 17 (List.take 18 (List.drop (0 + i.toNat * 19 + 0) C)))))[5]? = true then
 (if isIntV u8 (List.take 16 (List.drop 1 (List.take 17 (List.take 18 (List.drop (0 + j.toNat * 18) Y)))))[6]? = true then
 (if isIntV u8 (List.take 16 (List.drop 1 (List.take 17 (List.take 18 (List.drop (0 + i.toNat * 19 + 0) C)))))[6]? = true then
 (if isIntV u8 (List.take 16 (List.drop 1 (List.take 17 (List.take 18 (List.drop (0 + j.toNat * 18) Y)))))[7]? = true then
 (if isIntV u8 (List.take 16 (List.drop 1 (List.take 17 (List.take 18 (List.drop (0 + i.toNat * 19 + 0) C)))))[7]? = true then
 (if isIntV u8 (List.take 16 (List.drop 1 (List.take 17 (List.take 18 (List.drop (0 + j.toNat * 18) Y)))))[8]? = true then
 (if isIntV u8 (List.take 16 (List.drop 1 (List.take 17 (List.take 18 (List.drop (0 + i.toNat * 19 + 0) C)))))[8]? = true then
 (if isIntV u8 (List.take 16 (List.drop 1 (List.take 17 (List.take 18 (List.drop (0 + j.toNat * 18) Y)))))[9]? = true then
 (if isIntV u8 (List.take 16 (List.drop 1 (List.take 17 (List.take 18 (List.drop (0 + i.toNat * 19 + 0) C)))))[9]? = true then
 (if isIntV u8 (List.take 16 (List.drop 1 (List.take 17 (List.take 18 (List.drop (0 + j.toNat * 18) Y)))))[10]? = true then
 (if isIntV u8 (List.take 16 (List.drop 1 (List.take 17 (List.take 18 (List.drop (0 + i.toNat * 19 + 0) C)))))[10]? = true then
 (if isIntV u8 (List.take 16 (List.drop 1 (List.take 17 (List.take 18 (List.drop (0 + j.toNat * 18) Y)))))[11]? = true then
 (if isIntV u8 (List.take 16 (List.drop 1 (List.take 17 (List.take 18 (List.drop (0 + i.toNat * 19 + 0) C)))))[11]? = true then
 (if isIntV u8 (List.take 16 (List.drop 1 (List.take 17 (List.take 18 (List.drop (0 + j.toNat * 18) Y)))))[12]? = true then
 (if isIntV u8 (List.take 16 (List.drop 1 (List.take 17 (List.take 18 (List.drop (0 + i.toNat * 19 + 0) C)))))[12]? = true then
 (if isIntV u8 (List.take 16 (List.drop 1 (List.take 17 (List.take 18 (List.drop (0 + j.toNat * 18) Y)))))[13]? = true then
 (if isIntV u8 (List.take 16 (List.drop 1 (List.take 17 (List.take 18 (List.drop (0 + i.toNat * 19 + 0) C)))))[13]? = true then
 (if isIntV u8 (List.take 16 (List.drop 1 (List.take 17 (List.take 18 (List.drop (0 + j.toNat * 18) Y)))))[14]? = true then
 (if isIntV u8 (List.take 16 (List.drop 1 (List.take 17 (List.take 18 (List.drop (0 + i.toNat * 19 + 0) C)))))[14]? = true then
 (if isIntV u8 (List.take 16 (List.drop 1 (List.take 17 (List.take 18 (List.drop (0 + j.toNat * 18) Y)))))[15]? = true then
 (if isIntV u8 (List.take 16 (List.drop 1 (List.take 17 (List.take 18 (List.drop (0 + i.toNat * 19 + 0) C)))))[15]? = true then
 (if isIntV u16 (List.take 18 (List.drop (0 + j.toNat * 18) Y))[17]? = true then
 (if isIntV u16 (List.take 18 (List.drop (0 + i.toNat * 19 + 0) C))[17]? = true then
 (if (!(boolV (List.take 17 (List.take 18 (List.drop (0 + j.toNat * 18) Y)))[0]? == boolV (List.take 17 (List.take 18 (List.drop (0 + i.toNat * 19 + 0) C)))[0]? && (intV (List.take 16 (List.drop 1 (List.take 17 (List.take 18 (List.drop (0 + j.toNat * 18) Y)))))[0]? == intV (List.take 16 (List.drop 1 (List.take 17 (List.take 18 (List.drop (0 + i.toNat * 19 + 0) C)))))[0]? && (intV (List.take 16 (List.drop 1 (List.take 17 (List.take 18 (List.drop (0 + j.toNat * 18) Y)))))[1]? == intV (List.take 16 (List.drop 1 (List.take 17 (List.take 18 (List.drop (0 + i.toNat * 19 + 0) C)))))[1]? && (intV (List.take 16 (List.drop 1 (List.take 17 (List.take 18 (List.drop (0 + j.toNat * 18) Y)))))[2]? == intV (List.take 16 (List.drop 1 (List.take 17 (List.take 18 (List.drop (0 + i.toNat * 19 + 0) C)))))[2]? && (intV (List.take 16 (List.drop 1 (List.take 17 (List.take 18 (List.drop (0 + j.toNat * 18) Y)))))[3]? == intV (List.take 16 (List.drop 1 (List.take 17 (List.take 18 (List.drop (0 + i.toNat * 19 + 0) C)))))[3]? && (intV (List.take 16 (List.drop 1 (List.take 17 (List.take 18 (List.drop (0 + j.toNat * 18) Y)))))[4]? == intV (List.take 16 (List.drop 1 (List.take 17 (List.take 18 (List.drop (0 + i.toNat * 19 + 0) C)))))[4]? && (intV (List.take 16 (List.drop 1 (List.take 17 (List.take 18 (List.drop (0 + j.toNat * 18) Y)))))[5]? == intV (List.take 16 (List.drop 1 (List.take 17 (List.take 18 (List.drop (0 + i.toNat * 19 + 0) C)))))[5]? && (intV (List.take 16 (List.drop 1 (List.take 17 (List.take 18 (List.drop (0 + j.toNat * 18) Y)))))[6]? == intV (List.take 16 (List.drop 1 (List.take 17 (List.take 18 (List.drop (0 + i.toNat * 19 + 0) C)))))[6]? && (intV (List.take 16 (List.drop 1 (List.take 17 (List.take 18 (List.drop (0 + j.toNat * 18) Y)))))[7]? == intV (List.take 16 (List.drop 1 (List.take 17 (List.take 18 (List.drop (0 + i.toNat * 19 + 0) C)))))[7]? && (intV (List.take 16 (List.drop 1 (List.take 17 (List.take 18 (List.drop (0 + j.toNat * 18) Y)))))[8]? == intV (List.take 16 (List.drop 1 (List.take 17 (List.take 18 (List.drop (0 + i.toNat * 19 + 0) C)))))[8]? && (intV (List.take 16 (List.drop 1 (List.take 17 (List.take 18 (List.drop (0 + j.toNat * 18) Y)))))[9]? == intV (List.take 16 (List.drop 1 (List.take 17 (List.take 18 (List.drop (0 + i.toNat * 19 + 0) C)))))[9]? && (intV (List.take 16 (List.drop 1 (List.take 17 (List.take 18 (List.drop (0 + j.toNat * 18) Y)))))[10]? == intV (List.take 16 (List.drop 1 (List.take 17 (List.take 18 (List.drop (0 + i.toNat * 19 + 0) C)))))[10]? && (intV (List.take 16 (List.drop 1 (List.take 17 (List.take 18 (List.drop (0 + j.toNat * 18) Y)))))[11]? == intV (List.take 16 (List.drop 1 (List.take 17 (List.take 18 (List.drop (0 + i.toNat * 19 + 0) C)))))[11]? && (intV (List.take 16 (List.drop 1 (List.take 17 (List.take 18 (List.drop (0 + j.toNat * 18) Y)))))[12]? == intV (List.take 16 (List.drop 1 (List.take 17 (List.take 18 (List.drop (0 + i.toNat * 19 + 0) C)))))[12]? && (intV (List.take 16 (List.drop 1 (List.take 17 (List.take 18 (List.drop (0 + j.toNat * 18) Y)))))[13]? == intV (List.take 16 (List.drop 1 (List.take 17 (List.take 18 (List.drop (0 + i.toNat * 19 + 0) C)))))[13]? && (intV (List.take 16 (List.drop 1 (List.take 17 (List.take 18 (List.drop (0 + j.toNat * 18) Y)))))[14]? == intV (List.take 16 (List.drop 1 (List.take 17 (List.take 18 (List.drop (0 + i.toNat * 19 + 0) C)))))[14]? && (intV (List.take 16 (List.drop 1 (List.take 17 (List.take 18 (List.drop (0 + j.toNat * 18) Y)))))[15]? == intV (List.take 16 (List.drop 1 (List.take 17 (List.take 18 (List.drop (0 + i.toNat * 19 + 0) C)))))[15]? && true))))))))))))))) && true) && (intV (List.take 18 (List.drop (0 + j.toNat * 18) Y))[17]? == intV (List.take 18 (List.drop (0 + i.toNat * 19 + 0) C))[17]? && true))) = false then
 some ((AEx.norm, [int i64 n, AV.sl (some (3, 0)) k 0 false, AV.sl (some (4, 0)) x 0 false, AV.sl (some (5, 0)) y 0 false, int i64 g, int i64 i, int i64 u, int i64 w, int i64 (i64.wrap (j + 1))], (hSTA2a0 B0 B1 B2 C X Y n k x y g i u w j)))
 else none) else none) else none) else none) else none) else none) else none) else none) else none) else none) else none) else none) else none) else none) else none) else none) else none) else none) else none) else none) else none) else none) else none) else none) else none) else none) else none) else none) else none) else none) else none) else none) else none) else none) else none) else none) else none) else none) else none) else none) else none) else none) else none) else none) else none)
 else some ((AEx.norm, [int i64 n, AV.sl (some (3, 0)) k 0 false, AV.sl (some (4, 0)) x 0 false, AV.sl (some (5, 0)) y 0 false, int i64 g, int i64 i, int i64 u, int i64 w, int i64 (i64.wrap (j + 1))], (hSTA2a0 B0 B1 B2 C X Y n k x y g i u w j))))
 else none) else none) else none) else none) else none) else none) else none) else none) else none) else none) else none) else none) else none) else none) else none) else none) else none) else none) else none) else none) else none) else none) else none) else none) else none) else none) else none) else none) else none) else none) else none) else none) else none) else none) else none) else none) else none) else none) else none) else none) else none) else none) else none) else none) else none) else none) := by
  kernel_rfl

noncomputable def hSTA2s0 (B0 B1 B2 : ABlk) (C X Y : List AV) (n : Int) (k x y : Nat) (g i u w j : Int) : AHeap := [B0, B1, B2, ABlk.cells C 19 Md.own none, ABlk.cells X 18 Md.own none, ABlk.cells Y 18 Md.own none]
theorem nfSTA2s (B0 B1 B2 : ABlk) (C X Y : List AV) (n : Int) (k x y : Nat) (g i u w j : Int) :
 qround Try.prog tSTL 100 4 [(140, .bool false)] noT ST2 mST2 (vSTA2 n k x y g i u w j) (hSTA B0 B1 B2 C X Y) =
 (if decide (j < n) = true then
 (if decide (w ≥ u) = false then
 some ((AEx.exit 2, [int i64 n, AV.sl (some (3, 0)) k 0 false, AV.sl (some (4, 0)) x 0 false, AV.sl (some (5, 0)) y 0 false, int i64 g, int i64 i, int i64 u, int i64 w, int i64 j], (hSTA2s0 B0 B1 B2 C X Y n k x y g i u w j)))
 else none)
 else some ((AEx.exit 2, [int i64 n, AV.sl (some (3, 0)) k 0 false, AV.sl (some (4, 0)) x 0 false, AV.sl (some (5, 0)) y 0 false, int i64 g, int i64 i, int i64 u, int i64 w, int i64 j], (hSTA2s0 B0 B1 B2 C X Y n k x y g i u w j)))) := by
  kernel_rfl

def vSTB1 (n : Int) (k x y : Nat) (g i : Int) : List AV := [.int .i64 n, .sl (some (6, 0)) k 0 false, .sl (some (7, 0)) x 0 false, .sl (some (8, 0)) y 0 false, .int .i64 g, .int .i64 i]
def vSTB2 (n : Int) (k x y : Nat) (g i u w j : Int) : List AV := [.int .i64 n, .sl (some (6, 0)) k 0 false, .sl (some (7, 0)) x 0 false, .sl (some (8, 0)) y 0 false, .int .i64 g, .int .i64 i, .int .i64 u, .int .i64 w, .int .i64 j]
def hSTB (B0 B1 B2 B3 B4 B5 : ABlk) (C X Y : List AV) : AHeap := [B0, B1, B2, B3, B4, B5, .cells C 19 .own (some 5), .cells X 18 .own none, .cells Y 18 .own none]

noncomputable def hSTB1a0 (B0 B1 B2 B3 B4 B5 : ABlk) (C X Y : List AV) (n : Int) (k x y : Nat) (g i : Int) : AHeap := [B0, B1, B2, B3, B4, B5, ABlk.cells C 19 Md.own (some 5), ABlk.cells X 18 Md.own none, ABlk.cells Y 18 Md.own none]
noncomputable def hSTB1a1 (B0 B1 B2 B3 B4 B5 : ABlk) (C X Y : List AV) (n : Int) (k x y : Nat) (g i : Int) : AHeap := []
theorem nfSTB1a (B0 B1 B2 B3 B4 B5 : ABlk) (C X Y : List AV) (n : Int) (k x y : Nat) (g i : Int) :
 qround Try.prog tSTL 100 4 [(110, .bool true)] lsST ST1 mST1 (vSTB1 n k x y g i) (hSTB B0 B1 B2 B3 B4 B5 C X Y) =
 (if decide (i < (k : Int)) = true then
 (if 0 ≤ i ∧ i < (k : Int) then
 (if 0 + i.toNat * 19 + 0 + 18 ≤ C.length then
 (if cdec (CnR [AV.sl (some (7, 0)) x 0 false, AV.agg (List.take 18 (List.drop (0 + i.toNat * 19 + 0) C))] (hSTB1a0 B0 B1 B2 B3 B4 B5 C X Y n k x y g i) (int i64 (intC CnR [AV.sl (some (7, 0)) x 0 false, AV.agg (List.take 18 (List.drop (0 + i.toNat * 19 + 0) C))] (hSTB1a0 B0 B1 B2 B3 B4 B5 C X Y n k x y g i))) (hSTB1a1 B0 B1 B2 B3 B4 B5 C X Y n k x y g i)) = true then
 (if 0 ≤ i ∧ i < (k : Int) then
 (if 0 + i.toNat * 19 + 0 + 18 ≤ C.length then
 (if cdec (CnR [AV.sl (some (8, 0)) y 0 false, AV.agg (List.take 18 (List.drop (0 + i.toNat * 19 + 0) C))] (hSTB1a0 B0 B1 B2 B3 B4 B5 C X Y n k x y g i) (int i64 (intC CnR [AV.sl (some (8, 0)) y 0 false, AV.agg (List.take 18 (List.drop (0 + i.toNat * 19 + 0) C))] (hSTB1a0 B0 B1 B2 B3 B4 B5 C X Y n k x y g i))) (hSTB1a1 B0 B1 B2 B3 B4 B5 C X Y n k x y g i)) = true then
 (if 0 + i.toNat * 19 + 0 + 18 ≤ C.length then
 (if (AV.agg (List.take 18 (List.drop (0 + i.toNat * 19 + 0) C))).beq (AV.agg (List.take 18 (List.drop (0 + i.toNat * 19 + 0) C))) = true then
 (if cdec (LSays bST2 9 [int i64 n, AV.sl (some (6, 0)) k 0 false, AV.sl (some (7, 0)) x 0 false, AV.sl (some (8, 0)) y 0 false, int i64 (i64.wrap (g + if true = true then if 0 > i64.wrap (intC CnR [AV.sl (some (8, 0)) y 0 false, AV.agg (List.take 18 (List.drop (0 + i.toNat * 19 + 0) C))] (hSTB1a0 B0 B1 B2 B3 B4 B5 C X Y n k x y g i) - intC CnR [AV.sl (some (7, 0)) x 0 false, AV.agg (List.take 18 (List.drop (0 + i.toNat * 19 + 0) C))] (hSTB1a0 B0 B1 B2 B3 B4 B5 C X Y n k x y g i)) then 0 else i64.wrap (intC CnR [AV.sl (some (8, 0)) y 0 false, AV.agg (List.take 18 (List.drop (0 + i.toNat * 19 + 0) C))] (hSTB1a0 B0 B1 B2 B3 B4 B5 C X Y n k x y g i) - intC CnR [AV.sl (some (7, 0)) x 0 false, AV.agg (List.take 18 (List.drop (0 + i.toNat * 19 + 0) C))] (hSTB1a0 B0 B1 B2 B3 B4 B5 C X Y n k x y g i)) else if 0 < i64.wrap (intC CnR [AV.sl (some (8, 0)) y 0 false, AV.agg (List.take 18 (List.drop (0 + i.toNat * 19 + 0) C))] (hSTB1a0 B0 B1 B2 B3 B4 B5 C X Y n k x y g i) - intC CnR [AV.sl (some (7, 0)) x 0 false, AV.agg (List.take 18 (List.drop (0 + i.toNat * 19 + 0) C))] (hSTB1a0 B0 B1 B2 B3 B4 B5 C X Y n k x y g i)) then 0 else i64.wrap (intC CnR [AV.sl (some (8, 0)) y 0 false, AV.agg (List.take 18 (List.drop (0 + i.toNat * 19 + 0) C))] (hSTB1a0 B0 B1 B2 B3 B4 B5 C X Y n k x y g i) - intC CnR [AV.sl (some (7, 0)) x 0 false, AV.agg (List.take 18 (List.drop (0 + i.toNat * 19 + 0) C))] (hSTB1a0 B0 B1 B2 B3 B4 B5 C X Y n k x y g i)))), int i64 i, int i64 (intC CnR [AV.sl (some (7, 0)) x 0 false, AV.agg (List.take 18 (List.drop (0 + i.toNat * 19 + 0) C))] (hSTB1a0 B0 B1 B2 B3 B4 B5 C X Y n k x y g i)), int i64 (intC CnR [AV.sl (some (8, 0)) y 0 false, AV.agg (List.take 18 (List.drop (0 + i.toNat * 19 + 0) C))] (hSTB1a0 B0 B1 B2 B3 B4 B5 C X Y n k x y g i)), int i64 0] (hSTB1a0 B0 B1 B2 B3 B4 B5 C X Y n k x y g i) (AEx.exit 2) [int i64 n, AV.sl (some (6, 0)) k 0 false, AV.sl (some (7, 0)) x 0 false, AV.sl (some (8, 0)) y 0 false, int i64 (i64.wrap (g + if true = true then if 0 > i64.wrap (intC CnR [AV.sl (some (8, 0)) y 0 false, AV.agg (List.take 18 (List.drop (0 + i.toNat * 19 + 0) C))] (hSTB1a0 B0 B1 B2 B3 B4 B5 C X Y n k x y g i) - intC CnR [AV.sl (some (7, 0)) x 0 false, AV.agg (List.take 18 (List.drop (0 + i.toNat * 19 + 0) C))] (hSTB1a0 B0 B1 B2 B3 B4 B5 C X Y n k x y g i)) then 0 else i64.wrap (intC CnR [AV.sl (some (8, 0)) y 0 false, AV.agg (List.take 18 (List.drop (0 + i.toNat * 19 + 0) C))] (hSTB1a0 B0 B1 B2 B3 B4 B5 C X Y n k x y g i) - intC CnR [AV.sl (some (7, 0)) x 0 false, AV.agg (List.take 18 (List.drop (0 + i.toNat * 19 + 0) C))] (hSTB1a0 B0 B1 B2 B3 B4 B5 C X Y n k x y g i)) else if 0 < i64.wrap (intC CnR [AV.sl (some (8, 0)) y 0 false, AV.agg (List.take 18 (List.drop (0 + i.toNat * 19 + 0) C))] (hSTB1a0 B0 B1 B2 B3 B4 B5 C X Y n k x y g i) - intC CnR [AV.sl (some (7, 0)) x 0 false, AV.agg (List.take 18 (List.drop (0 + i.toNat * 19 + 0) C))] (hSTB1a0 B0 B1 B2 B3 B4 B5 C X Y n k x y g i)) then 0 else i64.wrap (intC CnR [AV.sl (some (8, 0)) y 0 false, AV.agg (List.take 18 (List.drop (0 + i.toNat * 19 + 0) C))] (hSTB1a0 B0 B1 B2 B3 B4 B5 C X Y n k x y g i) - intC CnR [AV.sl (some (7, 0)) x 0 false, AV.agg (List.take 18 (List.drop (0 + i.toNat * 19 + 0) C))] (hSTB1a0 B0 B1 B2 B3 B4 B5 C X Y n k x y g i)))), int i64 i, int i64 (intC CnR [AV.sl (some (7, 0)) x 0 false, AV.agg (List.take 18 (List.drop (0 + i.toNat * 19 + 0) C))] (hSTB1a0 B0 B1 B2 B3 B4 B5 C X Y n k x y g i)), int i64 (intC CnR [AV.sl (some (8, 0)) y 0 false, AV.agg (List.take 18 (List.drop (0 + i.toNat * 19 + 0) C))] (hSTB1a0 B0 B1 B2 B3 B4 B5 C X Y n k x y g i)), int i64 (opq (if intC CnR [AV.sl (some (8, 0)) y 0 false, AV.agg (List.take 18 (List.drop (0 + i.toNat * 19 + 0) C))] (hSTB1a0 B0 B1 B2 B3 B4 B5 C X Y n k x y g i) ≥ intC CnR [AV.sl (some (7, 0)) x 0 false, AV.agg (List.take 18 (List.drop (0 + i.toNat * 19 + 0) C))] (hSTB1a0 B0 B1 B2 B3 B4 B5 C X Y n k x y g i) then n else 0))] (hSTB1a0 B0 B1 B2 B3 B4 B5 C X Y n k x y g i)) = true then
 some ((AEx.norm, [int i64 n, AV.sl (some (6, 0)) k 0 false, AV.sl (some (7, 0)) x 0 false, AV.sl (some (8, 0)) y 0 false, int i64 (i64.wrap (g + if true = true then if 0 > i64.wrap (intC CnR [AV.sl (some (8, 0)) y 0 false, AV.agg (List.take 18 (List.drop (0 + i.toNat * 19 + 0) C))] (hSTB1a0 B0 B1 B2 B3 B4 B5 C X Y n k x y g i) - intC CnR [AV.sl (some (7, 0)) x 0 false, AV.agg (List.take 18 (List.drop (0 + i.toNat * 19 + 0) C))] (hSTB1a0 B0 B1 B2 B3 B4 B5 C X Y n k x y g i)) then 0 else i64.wrap (intC CnR [AV.sl (some (8, 0)) y 0 false, AV.agg (List.take 18 (List.drop (0 + i.toNat * 19 + 0) C))] (hSTB1a0 B0 B1 B2 B3 B4 B5 C X Y n k x y g i) - intC CnR [AV.sl (some (7, 0)) x 0 false, AV.agg (List.take 18 (List.drop (0 + i.toNat * 19 + 0) C))] (hSTB1a0 B0 B1 B2 B3 B4 B5 C X Y n k x y g i)) else if 0 < i64.wrap (intC CnR [AV.sl (some (8, 0)) y 0 false, AV.agg (List.take 18 (List.drop (0 + i.toNat * 19 + 0) C))] (hSTB1a0 B0 B1 B2 B3 B4 B5 C X Y n k x y g i) - intC CnR [AV.sl (some (7, 0)) x 0 false, AV.agg (List.take 18 (List.drop (0 + i.toNat * 19 + 0) C))] (hSTB1a0 B0 B1 B2 B3 B4 B5 C X Y n k x y g i)) then 0 else i64.wrap (intC CnR [AV.sl (some (8, 0)) y 0 false, AV.agg (List.take 18 (List.drop (0 + i.toNat * 19 + 0) C))] (hSTB1a0 B0 B1 B2 B3 B4 B5 C X Y n k x y g i) - intC CnR [AV.sl (some (7, 0)) x 0 false, AV.agg (List.take 18 (List.drop (0 + i.toNat * 19 + 0) C))] (hSTB1a0 B0 B1 B2 B3 B4 B5 C X Y n k x y g i)))), int i64 (i64.wrap (i + 1))], (hSTB1a0 B0 B1 B2 B3 B4 B5 C X Y n k x y g i)))
 else none) else none) else none) else none) else none) else none) else none) else none) else none) else none) := by
  kernel_rfl

noncomputable def hSTB1s0 (B0 B1 B2 B3 B4 B5 : ABlk) (C X Y : List AV) (n : Int) (k x y : Nat) (g i : Int) : AHeap := [B0, B1, B2, B3, B4, B5, ABlk.cells C 19 Md.own (some 5), ABlk.cells X 18 Md.own none, ABlk.cells Y 18 Md.own none]
theorem nfSTB1s (B0 B1 B2 B3 B4 B5 : ABlk) (C X Y : List AV) (n : Int) (k x y : Nat) (g i : Int) :
 qround Try.prog tSTL 100 4 [(110, .bool false)] lsST ST1 mST1 (vSTB1 n k x y g i) (hSTB B0 B1 B2 B3 B4 B5 C X Y) =
 (if decide (i < (k : Int)) = false then
 some ((AEx.exit 0, [int i64 n, AV.sl (some (6, 0)) k 0 false, AV.sl (some (7, 0)) x 0 false, AV.sl (some (8, 0)) y 0 false, int i64 g, int i64 i], (hSTB1s0 B0 B1 B2 B3 B4 B5 C X Y n k x y g i)))
 else none) := by
  kernel_rfl

noncomputable def hSTB2a0 (B0 B1 B2 B3 B4 B5 : ABlk) (C X Y : List AV) (n : Int) (k x y : Nat) (g i u w j : Int) : AHeap := [B0, B1, B2, B3, B4, B5, ABlk.cells C 19 Md.own (some 5), ABlk.cells X 18 Md.own none, ABlk.cells Y 18 Md.own none]
theorem nfSTB2a (B0 B1 B2 B3 B4 B5 : ABlk) (C X Y : List AV) (n : Int) (k x y : Nat) (g i u w j : Int) :
 qround Try.prog tSTL 100 4 [(140, .bool true), (164, .bool false)] noT ST2 mST2 (vSTB2 n k x y g i u w j) (hSTB B0 B1 B2 B3 B4 B5 C X Y) =
 (if decide (j < n) = true then
 (if decide (w ≥ u) = true then
 (if 0 ≤ j ∧ j < (x : Int) then
 (if 0 + j.toNat * 18 + 18 ≤ X.length then
 (if 0 ≤ i ∧ i < (k : Int) then
 (if 0 + i.toNat * 19 + 0 + 18 ≤ C.length then
 (if 17 ≤ (List.take 18 (List.drop (0 + j.toNat * 18) X)).length then
 (if 17 ≤ (List.take 18 (List.drop (0 + i.toNat * 19 + 0) C)).length then
 (if isBoolV (List.take 17 (List.take 18 (List.drop (0 + j.toNat * 18) X)))[0]? = true then
 (if isBoolV (List.take 17 (List.take 18 (List.drop (0 + i.toNat * 19 + 0) C)))[0]? = true then
 (if 17 ≤ (List.take 17 (List.take 18 (List.drop (0 + j.toNat * 18) X))).length then
 (if 17 ≤ (List.take 17 (List.take 18 (List.drop (0 + i.toNat * 19 + 0) C))).length then
 (if isIntV u8 (List.take 16 (List.drop 1 (List.take 17 (List.take 18 (List.drop (0 + j.toNat * 18) X)))))[0]? = true then
 (if isIntV u8 (List.take 16 (List.drop 1 (List.take 17 (List.take 18 (List.drop (0 + i.toNat * 19 + 0) C)))))[0]? = true then
 (if isIntV u8 (List.take 16 (List.drop 1 (List.take 17 (List.take 18 (List.drop (0 + j.toNat * 18) X)))))[1]? = true then
 (if isIntV u8 (List.take 16 (List.drop 1 (List.take 17 (List.take 18 (List.drop (0 + i.toNat * 19 + 0) C)))))[1]? = true then
 (if isIntV u8 (List.take 16 (List.drop 1 (List.take 17 (List.take 18 (List.drop (0 + j.toNat * 18) X)))))[2]? = true then
 (if isIntV u8 (List.take 16 (List.drop 1 (List.take 17 (List.take 18 (List.drop (0 + i.toNat * 19 + 0) C)))))[2]? = true then
 (if isIntV u8 (List.take 16 (List.drop 1 (List.take 17 (List.take 18 (List.drop (0 + j.toNat * 18) X)))))[3]? = true then
 (if isIntV u8 (List.take 16 (List.drop 1 (List.take 17 (List.take 18 (List.drop (0 + i.toNat * 19 + 0) C)))))[3]? = true then
 (if isIntV u8 (List.take 16 (List.drop 1 (List.take 17 (List.take 18 (List.drop (0 + j.toNat * 18) X)))))[4]? = true then
 (if isIntV u8 (List.take 16 (List.drop 1 (List.take 17 (List.take 18 (List.drop (0 + i.toNat * 19 + 0) C)))))[4]? = true then
 (if isIntV u8 (List.take 16 (List.drop 1 (List.take 17 (List.take 18 (List.drop (0 + j.toNat * 18) X)))))[5]? = true then
 (if isIntV u8 (List.take 16 (List.drop 1 (List.take 17 (List.take 18 (List.drop (0 + i.toNat * 19 + 0) C)))))[5]? = true then
 (if isIntV u8 (List.take 16 (List.drop 1 (List.take 17 (List.take 18 (List.drop (0 + j.toNat * 18) X)))))[6]? = true then
 (if isIntV u8 (List.take 16 (List.drop 1 (List.take 17 (List.take 18 (List.drop (0 + i.toNat * 19 + 0) C)))))[6]? = true then
 (if isIntV u8 (List.take 16 (List.drop 1 (List.take 17 (List.take 18 (List.drop (0 + j.toNat * 18) X)))))[7]? = true then
 (if isIntV u8 (List.take 16 (List.drop 1 (List.take 17 (List.take 18 (List.drop (0 + i.toNat * 19 + 0) C)))))[7]? = true then
 (if isIntV u8 (List.take 16 (List.drop 1 (List.take 17 (List.take 18 (List.drop (0 + j.toNat * 18) X)))))[8]? = true then
 (if isIntV u8 (List.take 16 (List.drop 1 (List.take 17 (List.take 18 (List.drop (0 + i.toNat * 19 + 0) C)))))[8]? = true then
 (if isIntV u8 (List.take 16 (List.drop 1 (List.take 17 (List.take 18 (List.drop (0 + j.toNat * 18) X)))))[9]? = true then
 (if isIntV u8 (List.take 16 (List.drop 1 (List.take 17 (List.take 18 (List.drop (0 + i.toNat * 19 + 0) C)))))[9]? = true then
 (if isIntV u8 (List.take 16 (List.drop 1 (List.take 17 (List.take 18 (List.drop (0 + j.toNat * 18) X)))))[10]? = true then
 (if isIntV u8 (List.take 16 (List.drop 1 (List.take 17 (List.take 18 (List.drop (0 + i.toNat * 19 + 0) C)))))[10]? = true then
 (if isIntV u8 (List.take 16 (List.drop 1 (List.take 17 (List.take 18 (List.drop (0 + j.toNat * 18) X)))))[11]? = true then
 (if isIntV u8 (List.take 16 (List.drop 1 (List.take 17 (List.take 18 (List.drop (0 + i.toNat * 19 + 0) C)))))[11]? = true then
 (if isIntV u8 (List.take 16 (List.drop 1 (List.take 17 (List.take 18 (List.drop (0 + j.toNat * 18) X)))))[12]? = true then
 (if isIntV u8 (List.take 16 (List.drop 1 (List.take 17 (List.take 18 (List.drop (0 + i.toNat * 19 + 0) C)))))[12]? = true then
 (if isIntV u8 (List.take 16 (List.drop 1 (List.take 17 (List.take 18 (List.drop (0 + j.toNat * 18) X)))))[13]? = true then
 (if isIntV u8 (List.take 16 (List.drop 1 (List.take 17 (List.take 18 (List.drop (0 + i.toNat * 19 + 0) C)))))[13]? = true then
 (if isIntV u8 (List.take 16 (List.drop 1 (List.take 17 (List.take 18 (List.drop (0 + j.toNat * 18) X)))))[14]? = true then
 (if isIntV u8 (List.take 16 (List.drop 1 (List.take 17 (List.take 18 (List.drop (0 + i.toNat * 19 + 0) C)))))[14]? = true then
 (if isIntV u8 (List.take 16 (List.drop 1 (List.take 17 (List.take 18 (List.drop (0 + j.toNat * 18) X)))))[15]? = true then
 (if isIntV u8 (List.take 16 (List.drop 1 (List.take 17 (List.take 18 (List.drop (0 + i.toNat * 19 + 0) C)))))[15]? = true then
 (if isIntV u16 (List.take 18 (List.drop (0 + j.toNat * 18) X))[17]? = true then
 (if isIntV u16 (List.take 18 (List.drop (0 + i.toNat * 19 + 0) C))[17]? = true then
 (if (boolV (List.take 17 (List.take 18 (List.drop (0 + j.toNat * 18) X)))[0]? == boolV (List.take 17 (List.take 18 (List.drop (0 + i.toNat * 19 + 0) C)))[0]? && (intV (List.take 16 (List.drop 1 (List.take 17 (List.take 18 (List.drop (0 + j.toNat * 18) X)))))[0]? == intV (List.take 16 (List.drop 1 (List.take 17 (List.take 18 (List.drop (0 + i.toNat * 19 + 0) C)))))[0]? && (intV (List.take 16 (List.drop 1 (List.take 17 (List.take 18 (List.drop (0 + j.toNat * 18) X)))))[1]? == intV (List.take 16 (List.drop 1 (List.take 17 (List.take 18 (List.drop (0 + i.toNat * 19 + 0) C)))))[1]? && (intV (List.take 16 (List.drop 1 (List.take 17 (List.take 18 (List.drop (0 + j.toNat * 18) X)))))[2]? == intV (List.take 16 (List.drop 1 (List.take 17 (List.take 18 (List.drop (0 + i.toNat * 19 + 0) C)))))[2]? && (intV (List.take 16 (List.drop 1 (List.take 17 (List.take 18 (List.drop (0 + j.toNat * 18) X)))))[3]? == intV (List.take 16 (List.drop 1 (List.take 17 (List.take 18 (List.drop (0 + i.toNat * 19 + 0) C)))))[3]? && (intV (List.take 16 (List.drop 1 (List.take 17 (List.take 18 (List.drop (0 + j.toNat * 18) X)))))[4]? == intV (List.take 16 (List.drop 1 (List.take 17 (List.take 18 (List.drop (0 + i.toNat * 19 + 0) C)))))[4]? && (intV (List.take 16 (List.drop 1 (List.take 17 (List.take 18 (List.drop (0 + j.toNat * 18) X)))))[5]? == intV (List.take 16 (List.drop 1 (List.take 17 (List.take 18 (List.drop (0 + i.toNat * 19 + 0) C)))))[5]? && (intV (List.take 16 (List.drop 1 (List.take 17 (List.take 18 (List.drop (0 + j.toNat * 18) X)))))[6]? == intV (List.take 16 (List.drop 1 (List.take 17 (List.take 18 (List.drop (0 + i.toNat * 19 + 0) C)))))[6]? && (intV (List.take 16 (List.drop 1 (List.take 17 (List.take 18 (List.drop (0 + j.toNat * 18) X)))))[7]? == intV (List.take 16 (List.drop 1 (List.take 17 (List.take 18 (List.drop (0 + i.toNat * 19 + 0) C)))))[7]? && (intV (List.take 16 (List.drop 1 (List.take 17 (List.take 18 (List.drop (0 + j.toNat * 18) X)))))[8]? == intV (List.take 16 (List.drop 1 (List.take 17 (List.take 18 (List.drop (0 + i.toNat * 19 + 0) C)))))[8]? && (intV (List.take 16 (List.drop 1 (List.take 17 (List.take 18 (List.drop (0 + j.toNat * 18) X)))))[9]? == intV (List.take 16 (List.drop 1 (List.take 17 (List.take 18 (List.drop (0 + i.toNat * 19 + 0) C)))))[9]? && (intV (List.take 16 (List.drop 1 (List.take 17 (List.take 18 (List.drop (0 + j.toNat * 18) X)))))[10]? == intV (List.take 16 (List.drop 1 (List.take 17 (List.take 18 (List.drop (0 + i.toNat * 19 + 0) C)))))[10]? && (intV (List.take 16 (List.drop 1 (List.take 17 (List.take 18 (List.drop (0 + j.toNat * 18) X)))))[11]? == intV (List.take 16 (List.drop 1 (List.take 17 (List.take 18 (List.drop (0 + i.toNat * 19 + 0) C)))))[11]? && (intV (List.take 16 (List.drop 1 (List.take 17 (List.take 18 (List.drop (0 + j.toNat * 18) X)))))[12]? == intV (List.take 16 (List.drop 1 (List.take 17 (List.take 18 (List.drop (0 + i.toNat * 19 + 0) C)))))[12]? && (intV (List.take 16 (List.drop 1 (List.take 17 (List.take 18 (List.drop (0 + j.toNat * 18) X)))))[13]? == intV (List.take 16 (List.drop 1 (List.take 17 (List.take 18 (List.drop (0 + i.toNat * 19 + 0) C)))))[13]? && (intV (List.take 16 (List.drop 1 (List.take 17 (List.take 18 (List.drop (0 + j.toNat * 18) X)))))[14]? == intV (List.take 16 (List.drop 1 (List.take 17 (List.take 18 (List.drop (0 + i.toNat * 19 + 0) C)))))[14]? && (intV (List.take 16 (List.drop 1 (List.take 17 (List.take 18 (List.drop (0 + j.toNat * 18) X)))))[15]? == intV (List.take 16 (List.drop 1 (List.take 17 (List.take 18 (List.drop (0 + i.toNat * 19 + 0) C)))))[15]? && true))))))))))))))) && true) && (intV (List.take 18 (List.drop (0 + j.toNat * 18) X))[17]? == intV (List.take 18 (List.drop (0 + i.toNat * 19 + 0) C))[17]? && true)) = true then
 (if 0 ≤ j ∧ j < (y : Int) then
 (if 0 + j.toNat * 18 + 18 ≤ Y.length then
 (if 0 ≤ i ∧ i < (k : Int) then
 (if 0 + i.toNat * 19 + 0 + 18 ≤ C.length then
 (if 17 ≤ (List.take 18 (List.drop (0 + j.toNat * 18) Y)).length then
 (if 17 ≤ (List.take 18 (List.drop (0 + i.toNat * 19 + 0) C)).length then
 (if isBoolV (List.take 17 (List.take 18 (List.drop (0 + j.toNat * 18) Y)))[0]? = true then
 (if isBoolV (List.take 17 (List.take 18 (List.drop (0 + i.toNat * 19 + 0) C)))[0]? = true then
 (if 17 ≤ (List.take 17 (List.take 18 (List.drop (0 + j.toNat * 18) Y))).length then
 (if 17 ≤ (List.take 17 (List.take 18 (List.drop (0 + i.toNat * 19 + 0) C))).length then
 (if isIntV u8 (List.take 16 (List.drop 1 (List.take 17 (List.take 18 (List.drop (0 + j.toNat * 18) Y)))))[0]? = true then
 (if isIntV u8 (List.take 16 (List.drop 1 (List.take 17 (List.take 18 (List.drop (0 + i.toNat * 19 + 0) C)))))[0]? = true then
 (if isIntV u8 (List.take 16 (List.drop 1 (List.take 17 (List.take 18 (List.drop (0 + j.toNat * 18) Y)))))[1]? = true then
 (if isIntV u8 (List.take 16 (List.drop 1 (List.take 17 (List.take 18 (List.drop (0 + i.toNat * 19 + 0) C)))))[1]? = true then
 (if isIntV u8 (List.take 16 (List.drop 1 (List.take 17 (List.take 18 (List.drop (0 + j.toNat * 18) Y)))))[2]? = true then
 (if isIntV u8 (List.take 16 (List.drop 1 (List.take 17 (List.take 18 (List.drop (0 + i.toNat * 19 + 0) C)))))[2]? = true then
 (if isIntV u8 (List.take 16 (List.drop 1 (List.take 17 (List.take 18 (List.drop (0 + j.toNat * 18) Y)))))[3]? = true then
 (if isIntV u8 (List.take 16 (List.drop 1 (List.take 17 (List.take 18 (List.drop (0 + i.toNat * 19 + 0) C)))))[3]? = true then
 (if isIntV u8 (List.take 16 (List.drop 1 (List.take 17 (List.take 18 (List.drop (0 + j.toNat * 18) Y)))))[4]? = true then
 (if isIntV u8 (List.take 16 (List.drop 1 (List.take 17 (List.take 18 (List.drop (0 + i.toNat * 19 + 0) C)))))[4]? = true then
 (if isIntV u8 (List.take 16 (List.drop 1 (List.take 17 (List.take 18 (List.drop (0 + j.toNat * 18) Y)))))[5]? = true then
 (if isIntV u8 (List.take 16 (List.drop 1 (List.take 17 (List.take 18 (List.drop (0 + i.toNat * 19 + 0) C)))))[5]? = true then
 (if isIntV u8 (List.take 16 (List.drop 1 (List.take 17 (List.take 18 (List.drop (0 + j.toNat * 18) Y)))))[6]? = true then
 (if isIntV u8 (List.take 16 (List.drop 1 (List.take 17 (List.take 18 (List.drop (0 + i.toNat * 19 + 0) C)))))[6]? = true then
 (if isIntV u8 (List.take 16 (List.drop 1 (List.take 17 (List.take 18 (List.drop (0 + j.toNat * 18) Y)))))[7]? = true then
 (if isIntV u8 (List.take 16 (List.drop 1 (List.take 17 (List.take 18 (List.drop (0 + i.toNat * 19 + 0) C)))))[7]? = true then
 (if isIntV u8 (List.take 16 (List.drop 1 (List.take 17 (List.take 18 (List.drop (0 + j.toNat * 18) Y)))))[8]? = true then
 (if isIntV u8 (List.take 16 (List.drop 1 (List.take 17 (List.take 18 (List.drop (0 + i.toNat * 19 + 0) C)))))[8]? = true then
 (if isIntV u8 (List.take 16 (List.drop 1 (List.take 17 (List.take 18 (List.drop (0 + j.toNat * 18) Y)))))[9]? = true then
 (if isIntV u8 (List.take 16 (List.drop 1 (List.take 17 (List.take 18 (List.drop (0 + i.toNat * 19 + 0) C)))))[9]? = true then
 (if isIntV u8 (List.take 16 (List.drop 1 (List.take 17 (List.take 18 (List.drop (0 + j.toNat * 18) Y)))))[10]? = true then
 (if isIntV u8 (List.take 16 (List.drop 1 (List.take 17 (List.take 18 (List.drop (0 + i.toNat * 19 + 0) C)))))[10]? = true then
 (if isIntV u8 (List.take 16 (List.drop 1 (List.take 17 (List.take 18 (List.drop (0 + j.toNat * 18) Y)))))[11]? = true then
 (if isIntV u8 (List.take 16 (List.drop 1 (List.take 17 (List.take 18 (List.drop (0 + i.toNat * 19 + 0) C)))))[11]? = true then
 (if isIntV u8 (List.take 16 (List.drop 1 (List.take 17 (List.take 18 (List.drop (0 + j.toNat * 18) Y)))))[12]? = true then
 (if isIntV u8 (List.take 16 (List.drop 1 (List.take 17 (List.take 18 (List.drop (0 + i.toNat * 19 + 0) C)))))[12]? = true then
 (if isIntV u8 (List.take 16 (List.drop 1 (List.take 17 (List.take 18 (List.drop (0 + j.toNat * 18) Y)))))[13]? = true then
 (if isIntV u8 (List.take 16 (List.drop 1 (List.take 17 (List.take 18 (List.drop (0 + i.toNat * 19 + 0) C)))))[13]? = true then
 (if isIntV u8 (List.take 16 (List.drop 1 (List.take 17 (List.take 18 (List.drop (0 + j.toNat * 18) Y)))))[14]? = true then
 (if isIntV u8 (List.take 16 (List.drop 1 (List.take 17 (List.take 18 (List.drop (0 + i.toNat * 19 + 0) C)))))[14]? = true then
 (if isIntV u8 (List.take 16 (List.drop 1 (List.take 17 (List.take 18 (List.drop (0 + j.toNat * 18) Y)))))[15]? = true then
 (if isIntV u8 (List.take 16 (List.drop 1 (List.take 17 (List.take 18 (List.drop (0 + i.toNat * 19 + 0) C)))))[15]? = true then
 (if isIntV u16 (List.take 18 (List.drop (0 + j.toNat * 18) Y))[17]? = true then
 (if isIntV u16 (List.take 18 (List.drop (0 + i.toNat * 19 + 0) C))[17]? = true then
 (if (!(boolV (List.take 17 (List.take 18 (List.drop (0 + j.toNat * 18) Y)))[0]? == boolV (List.take 17 (List.take 18 (List.drop (0 + i.toNat * 19 + 0) C)))[0]? && (intV (List.take 16 (List.drop 1 (List.take 17 (List.take 18 (List.drop (0 + j.toNat * 18) Y)))))[0]? == intV (List.take 16 (List.drop 1 (List.take 17 (List.take 18 (List.drop (0 + i.toNat * 19 + 0) C)))))[0]? && (intV (List.take 16 (List.drop 1 (List.take 17 (List.take 18 (List.drop (0 + j.toNat * 18) Y)))))[1]? == intV (List.take 16 (List.drop 1 (List.take 17 (List.take 18 (List.drop (0 + i.toNat * 19 + 0) C)))))[1]? && (intV (List.take 16 (List.drop 1 (List.take 17 (List.take 18 (List.drop (0 + j.toNat * 18) Y)))))[2]? == intV (List.take 16 (List.drop 1 (List.take 17 (List.take 18 (List.drop (0 + i.toNat * 19 + 0) C)))))[2]? && (intV (List.take 16 (List.drop 1 (List.take 17 (List.take 18 (List.drop (0 + j.toNat * 18) Y)))))[3]? == intV (List.take 16 (List.drop 1 (List.take 17 (List.take 18 (List.drop (0 + i.toNat * 19 + 0) C)))))[3]? && (intV (List.take 16 (List.drop 1 (List.take 17 (List.take 18 (List.drop (0 + j.toNat * 18) Y)))))[4]? == intV (List.take 16 (List.drop 1 (List.take 17 (List.take 18 (List.drop (0 + i.toNat * 19 + 0) C)))))[4]? && (intV (List.take 16 (List.drop 1 (List.take 17 (List.take 18 (List.drop (0 + j.toNat * 18) Y)))))[5]? == intV (List.take 16 (List.drop 1 (List.take 17 (List.take 18 (List.drop (0 + i.toNat * 19 + 0) C)))))[5]? && (intV (List.take 16 (List.drop 1 (List.take 17 (List.take 18 (List.drop (0 + j.toNat * 18) Y)))))[6]? == intV (List.take 16 (List.drop 1 (List.take 17 (List.take 18 (List.drop (0 + i.toNat * 19 + 0) C)))))[6]? && (intV (List.take 16 (List.drop 1 (List.take 17 (List.take 18 (List.drop (0 + j.toNat * 18) Y)))))[7]? == intV (List.take 16 (List.drop 1 (List.take 17 (List.take 18 (List.drop (0 + i.toNat * 19 + 0) C)))))[7]? && (intV (List.take 16 (List.drop 1 (List.take 17 (List.take 18 (List.drop (0 + j.toNat * 18) Y)))))[8]? == intV (List.take 16 (List.drop 1 (List.take 17 (List.take 18 (List.drop (0 + i.toNat * 19 + 0) C)))))[8]? && (intV (List.take 16 (List.drop 1 (List.take 17 (List.take 18 (List.drop (0 + j.toNat * 18) Y)))))[9]? == intV (List.take 16 (List.drop 1 (List.take 17 (List.take 18 (List.drop (0 + i.toNat * 19 + 0) C)))))[9]? && (intV (List.take 16 (List.drop 1 (List.take 17 (List.take 18 (List.drop (0 + j.toNat * 18) Y)))))[10]? == intV (List.take 16 (List.drop 1 (List.take 17 (List.take 18 (List.drop (0 + i.toNat * 19 + 0) C)))))[10]? && (intV (List.take 16 (List.drop 1 (List.take 17 (List.take 18 (List.drop (0 + j.toNat * 18) Y)))))[11]? == intV (List.take 16 (List.drop 1 (List.take 17 (List.take 18 (List.drop (0 + i.toNat * 19 + 0) C)))))[11]? && (intV (List.take 16 (List.drop 1 (List.take 17 (List.take 18 (List.drop (0 + j.toNat * 18) Y)))))[12]? == intV (List.take 16 (List.drop 1 (List.take 17 (List.take 18 (List.drop (0 + i.toNat * 19 + 0) C)))))[12]? && (intV (List.take 16 (List.drop 1 (List.take 17 (List.take 18 (List.drop (0 + j.toNat * 18) Y)))))[13]? == intV (List.take 16 (List.drop 1 (List.take 17 (List.take 18 (List.drop (0 + i.toNat * 19 + 0) C)))))[13]? && (intV (List.take 16 (List.drop 1 (List.take 17 (List.take 18 (List.drop (0 + j.toNat * 18) Y)))))[14]? == intV (List.take 16 (List.drop 1 (List.take 17 (List.take 18 (List.drop (0 + i.toNat * 19 + 0) C)))))[14]? && (intV (List.take 16 (List.drop 1 (List.take 17 (List.take 18 (List.drop (0 + j.toNat * 18) Y)))))[15]? == intV (List.take 16 (List.drop 1 (List.take 17 (List.take 18 (List.drop (0 + i.toNat * 19 + 0) C)))))[15]? && true))))))))))))))) && true) && (intV (List.take 18 (List.drop (0 + j.toNat * 18) Y))[17]? == intV (List.take 18 (List.drop (0 + i.toNat * 19 + 0) C))[17]? && true))) = false then
 some ((AEx.norm, [int i64 n, AV.sl (some (6, 0)) k 0 false, AV.sl (some (7, 0)) x 0 false, AV.sl (some (8, 0)) y 0 false, int i64 g, int i64 i, int i64 u, int i64 w, int i64 (i64.wrap (j + 1))], (hSTB2a0 B0 B1 B2 B3 B4 B5 C X Y n k x y g i u w j)))
 else none) else none) else none) else none) else none) else none) else none) else none) else none) else none) else none) else none) else none) else none) else none) else none) else none) else none) else none) else none) else none) else none) else none) else none) else none) else none) else none) else none) else none) else none) else none) else none) else none) else none) else none) else none) else none) else none) else none) else none) else none) else none) else none) else none) else none)
 else some ((AEx.norm, [int i64 n, AV.sl (some (6, 0)) k 0 false, AV.sl (some (7, 0)) x 0 false, AV.sl (some (8, 0)) y 0 false, int i64 g, int i64 i, int i64 u, int i64 w, int i64 (i64.wrap (j + 1))], (hSTB2a0 B0 B1 B2 B3 B4 B5 C X Y n k x y g i u w j))))
 else none) else none) else none) else none) else none) else none) else none) else none) else none) else none) else none) else none) else none) else none) else none) else none) else none) else none) else none) else none) else none) else none) else none) else none) else none) else none) else none) else none) else none) else none) else none) else none) else none) else none) else none) else none) else none) else none) else none) else none) else none) else none) else none) else none) else none) else none) := by
  kernel_rfl

noncomputable def hSTB2s0 (B0 B1 B2 B3 B4 B5 : ABlk) (C X Y : List AV) (n : Int) (k x y : Nat) (g i u w j : Int) : AHeap := [B0, B1, B2, B3, B4, B5, ABlk.cells C 19 Md.own (some 5), ABlk.cells X 18 Md.own none, ABlk.cells Y 18 Md.own none]
theorem nfSTB2s (B0 B1 B2 B3 B4 B5 : ABlk) (C X Y : List AV) (n : Int) (k x y : Nat) (g i u w j : Int) :
 qround Try.prog tSTL 100 4 [(140, .bool false)] noT ST2 mST2 (vSTB2 n k x y g i u w j) (hSTB B0 B1 B2 B3 B4 B5 C X Y) =
 (if decide (j < n) = true then
 (if decide (w ≥ u) = false then
 some ((AEx.exit 2, [int i64 n, AV.sl (some (6, 0)) k 0 false, AV.sl (some (7, 0)) x 0 false, AV.sl (some (8, 0)) y 0 false, int i64 g, int i64 i, int i64 u, int i64 w, int i64 j], (hSTB2s0 B0 B1 B2 B3 B4 B5 C X Y n k x y g i u w j)))
 else none)
 else some ((AEx.exit 2, [int i64 n, AV.sl (some (6, 0)) k 0 false, AV.sl (some (7, 0)) x 0 false, AV.sl (some (8, 0)) y 0 false, int i64 g, int i64 i, int i64 u, int i64 w, int i64 j], (hSTB2s0 B0 B1 B2 B3 B4 B5 C X Y n k x y g i u w j)))) := by
  kernel_rfl

noncomputable def hSTl0 (W V : List AV) (w v : Nat) (ou n : Int) : AHeap := [ABlk.cells W 1 Md.far none, ABlk.cells V 1 Md.far none]
theorem nfSTl {R : Type} (W V : List AV) (w v : Nat) (ou n : Int) (K : AV → AHeap → Option R) :
 qrun Try.prog tSTL 100 4 [(48, .bool true)] [] 5 [.sl (some (0, 0)) w 0 false, .sl (some (1, 0)) v 0 false, .int .i64 ou, .int .i64 n] [.cells W 1 .far none, .cells V 1 .far none] K =
 (if decide ((w : Int) < 2) = true then
 K (AV.bool true) ((hSTl0 W V w v ou n))
 else (if decide ((w : Int) > 30) = true then
 K (AV.bool true) ((hSTl0 W V w v ou n))
 else (if decide ((v : Int) < (w : Int)) = true then
 K (AV.bool true) ((hSTl0 W V w v ou n))
 else (if decide ((v : Int) > 32) = true then
 K (AV.bool true) ((hSTl0 W V w v ou n))
 else (if decide (n < 1) = true then
 K (AV.bool true) ((hSTl0 W V w v ou n))
 else (if decide (n > 64) = true then
 K (AV.bool true) ((hSTl0 W V w v ou n))
 else none)))))) := by
  kernel_rfl

noncomputable def hSTAm0 (q1 : Prop) (W V : List AV) (w v : Nat) (ou n : Int) (P Q : PL) (X Y : List DipC) (m q x y k : Nat) (e f g : Int) (B0 B1 B2 : ABlk) (C : List AV) : AHeap := [ABlk.cells W 1 Md.far none, ABlk.cells V 1 Md.far none]
noncomputable def hSTAm1 (q1 : Prop) (W V : List AV) (w v : Nat) (ou n : Int) (P Q : PL) (X Y : List DipC) (m q x y k : Nat) (e f g : Int) (B0 B1 B2 : ABlk) (C : List AV) : AHeap := [cells (itP P) 19 Md.own none]
noncomputable def hSTAm2 (q1 : Prop) (W V : List AV) (w v : Nat) (ou n : Int) (P Q : PL) (X Y : List DipC) (m q x y k : Nat) (e f g : Int) (B0 B1 B2 : ABlk) (C : List AV) : AHeap := [ABlk.cells W 1 Md.far none, ABlk.cells V 1 Md.far none, cells (itP P) 19 Md.own none]
noncomputable def hSTAm3 (q1 : Prop) (W V : List AV) (w v : Nat) (ou n : Int) (P Q : PL) (X Y : List DipC) (m q x y k : Nat) (e f g : Int) (B0 B1 B2 : ABlk) (C : List AV) : AHeap := [cells (itP Q) 19 Md.own none]
noncomputable def hSTAm4 (q1 : Prop) (W V : List AV) (w v : Nat) (ou n : Int) (P Q : PL) (X Y : List DipC) (m q x y k : Nat) (e f g : Int) (B0 B1 B2 : ABlk) (C : List AV) : AHeap := [ABlk.cells W 1 Md.far none, ABlk.cells V 1 Md.far none, cells (itP P) 19 Md.own none, cells (itP Q) 19 Md.own none]
noncomputable def hSTAm5 (q1 : Prop) (W V : List AV) (w v : Nat) (ou n : Int) (P Q : PL) (X Y : List DipC) (m q x y k : Nat) (e f g : Int) (B0 B1 B2 : ABlk) (C : List AV) : AHeap := [cells (dipsC X) 18 Md.own none]
noncomputable def hSTAm6 (q1 : Prop) (W V : List AV) (w v : Nat) (ou n : Int) (P Q : PL) (X Y : List DipC) (m q x y k : Nat) (e f g : Int) (B0 B1 B2 : ABlk) (C : List AV) : AHeap := [ABlk.cells W 1 Md.far none, ABlk.cells V 1 Md.far none, cells (itP P) 19 Md.own none, cells (itP Q) 19 Md.own none, cells (dipsC X) 18 Md.own none]
noncomputable def hSTAm7 (q1 : Prop) (W V : List AV) (w v : Nat) (ou n : Int) (P Q : PL) (X Y : List DipC) (m q x y k : Nat) (e f g : Int) (B0 B1 B2 : ABlk) (C : List AV) : AHeap := [cells (dipsC Y) 18 Md.own none]
noncomputable def hSTAm8 (q1 : Prop) (W V : List AV) (w v : Nat) (ou n : Int) (P Q : PL) (X Y : List DipC) (m q x y k : Nat) (e f g : Int) (B0 B1 B2 : ABlk) (C : List AV) : AHeap := [ABlk.cells W 1 Md.far none, ABlk.cells V 1 Md.far none, cells (itP P) 19 Md.own none, cells (itP Q) 19 Md.own none, cells (dipsC X) 18 Md.own none, cells (dipsC Y) 18 Md.own none]
noncomputable def hSTAm9 (q1 : Prop) (W V : List AV) (w v : Nat) (ou n : Int) (P Q : PL) (X Y : List DipC) (m q x y k : Nat) (e f g : Int) (B0 B1 B2 : ABlk) (C : List AV) : AHeap := [B0, B1, B2, cells (itP Q) 19 Md.own none, cells (dipsC X) 18 Md.own none, cells (dipsC Y) 18 Md.own none]
noncomputable def hSTAm10 (q1 : Prop) (W V : List AV) (w v : Nat) (ou n : Int) (P Q : PL) (X Y : List DipC) (m q x y k : Nat) (e f g : Int) (B0 B1 B2 : ABlk) (C : List AV) : AHeap := []
theorem nfSTAm {R : Type} (q1 : Prop) (W V : List AV) (w v : Nat) (ou n : Int) (P Q : PL) (X Y : List DipC) (m q x y k : Nat) (e f g : Int) (B0 B1 B2 : ABlk) (C : List AV) (K : AV → AHeap → Option R) :
 qrun Try.prog (tST P Q X Y m q x y 4 5 e f) 100 4 [(48, .bool false), (65, .bool false), (106, .bool false)] [(14, fixC q1 mST1 (vSTA1 n k x y 0 0) (hSTA B0 B1 B2 (itP Q) (dipsC X) (dipsC Y)) (.exit 0) (vSTA1 n k x y g k) (hSTA B0 B1 B2 (itP Q) (dipsC X) (dipsC Y)))] 5 [.sl (some (0, 0)) w 0 false, .sl (some (1, 0)) v 0 false, .int .i64 ou, .int .i64 n] [.cells W 1 .far none, .cells V 1 .far none] K =
 (if decide ((w : Int) < 2) = true then
 none
 else (if decide ((w : Int) > 30) = true then
 none
 else (if decide ((v : Int) < (w : Int)) = true then
 none
 else (if decide ((v : Int) > 32) = true then
 none
 else (if decide (n < 1) = true then
 none
 else (if decide (n > 64) = false then
 (if cdec (SvR [AV.sl (some (0, 0)) w 0 false, AV.bool false] (hSTAm0 q1 W V w v ou n P Q X Y m q x y k e f g B0 B1 B2 C) (AV.sl (some (2, 0)) m 0 false) (hSTAm1 q1 W V w v ou n P Q X Y m q x y k e f g B0 B1 B2 C)) = true then
 (if 0 ≤ (w : Int) ∧ (w : Int) ≤ (((capOf v 0 false) : Nat) : Int) then
 (if cdec (SvR [AV.sl (some (1, 0)) (((w : Int)).toNat - 0) (roomOf v 0 0 (some (w : Int)).isNone ((w : Int)).toNat false) false, AV.bool false] (hSTAm2 q1 W V w v ou n P Q X Y m q x y k e f g B0 B1 B2 C) (AV.sl (some (3, 0)) q 0 false) (hSTAm3 q1 W V w v ou n P Q X Y m q x y k e f g B0 B1 B2 C)) = true then
 (if decide (0 < i64.wrap ((q : Int) + 1) ∧ i64.wrap ((q : Int) + 1) < 4611686018427387904) = true then
 (if decide (ou % i64.wrap ((q : Int) + 1) < (q : Int)) = false then
 (if cdec (FlR [AV.sl none 0 0 true, AV.sl (some (2, 0)) m 0 false, int i64 n] (hSTAm4 q1 W V w v ou n P Q X Y m q x y k e f g B0 B1 B2 C) (AV.tup [AV.sl (some (4, 0)) x 0 false, int i64 e]) (hSTAm5 q1 W V w v ou n P Q X Y m q x y k e f g B0 B1 B2 C)) = true then
 (if cdec (FlR [AV.sl (some (4, 0)) x 0 false, AV.sl (some (3, 0)) q 0 false, int i64 n] (hSTAm6 q1 W V w v ou n P Q X Y m q x y k e f g B0 B1 B2 C) (AV.tup [AV.sl (some (5, 0)) y 0 false, int i64 f]) (hSTAm7 q1 W V w v ou n P Q X Y m q x y k e f g B0 B1 B2 C)) = true then
 (if (e != 0) = true then
 none
 else (if (f != 0) = true then
 none
 else (if ((x : Int) != n) = true then
 none
 else (if ((y : Int) != n) = false then
 (if cdec (q1 ∧ [int i64 n, AV.sl (some (3, 0)) q 0 false, AV.sl (some (4, 0)) x 0 false, AV.sl (some (5, 0)) y 0 false, int i64 0, int i64 0] = [int i64 n, AV.sl (some (3, 0)) k 0 false, AV.sl (some (4, 0)) x 0 false, AV.sl (some (5, 0)) y 0 false, int i64 0, int i64 0] ∧ (hSTAm8 q1 W V w v ou n P Q X Y m q x y k e f g B0 B1 B2 C) = (hSTAm9 q1 W V w v ou n P Q X Y m q x y k e f g B0 B1 B2 C)) = true then
 (if cdec (MvR [AV.sl (some (4, 0)) x 0 false, AV.sl (some (5, 0)) y 0 false] (hSTAm9 q1 W V w v ou n P Q X Y m q x y k e f g B0 B1 B2 C) (int i64 (intC MvR [AV.sl (some (4, 0)) x 0 false, AV.sl (some (5, 0)) y 0 false] (hSTAm9 q1 W V w v ou n P Q X Y m q x y k e f g B0 B1 B2 C))) (hSTAm10 q1 W V w v ou n P Q X Y m q x y k e f g B0 B1 B2 C)) = true then
 (if (intC MvR [AV.sl (some (4, 0)) x 0 false, AV.sl (some (5, 0)) y 0 false] (hSTAm9 q1 W V w v ou n P Q X Y m q x y k e f g B0 B1 B2 C) == g) = true then
 K (AV.bool true) ((hSTAm9 q1 W V w v ou n P Q X Y m q x y k e f g B0 B1 B2 C))
 else K (AV.bool false) ((hSTAm9 q1 W V w v ou n P Q X Y m q x y k e f g B0 B1 B2 C)))
 else none) else none) else none))))
 else none) else none) else none) else none) else none) else none) else none) else none)))))) := by
  kernel_rfl

noncomputable def hSTBm0 (q1 : Prop) (W V : List AV) (w v : Nat) (ou n : Int) (P Q : PL) (X Y : List DipC) (m q x y k : Nat) (e f g : Int) (B0 B1 B2 B3 B4 B5 : ABlk) (C : List AV) : AHeap := [ABlk.cells W 1 Md.far none, ABlk.cells V 1 Md.far none]
noncomputable def hSTBm1 (q1 : Prop) (W V : List AV) (w v : Nat) (ou n : Int) (P Q : PL) (X Y : List DipC) (m q x y k : Nat) (e f g : Int) (B0 B1 B2 B3 B4 B5 : ABlk) (C : List AV) : AHeap := [cells (itP P) 19 Md.own none]
noncomputable def hSTBm2 (q1 : Prop) (W V : List AV) (w v : Nat) (ou n : Int) (P Q : PL) (X Y : List DipC) (m q x y k : Nat) (e f g : Int) (B0 B1 B2 B3 B4 B5 : ABlk) (C : List AV) : AHeap := [ABlk.cells W 1 Md.far none, ABlk.cells V 1 Md.far none, cells (itP P) 19 Md.own none]
noncomputable def hSTBm3 (q1 : Prop) (W V : List AV) (w v : Nat) (ou n : Int) (P Q : PL) (X Y : List DipC) (m q x y k : Nat) (e f g : Int) (B0 B1 B2 B3 B4 B5 : ABlk) (C : List AV) : AHeap := [cells (itP Q) 19 Md.own none]
noncomputable def hSTBm4 (q1 : Prop) (W V : List AV) (w v : Nat) (ou n : Int) (P Q : PL) (X Y : List DipC) (m q x y k : Nat) (e f g : Int) (B0 B1 B2 B3 B4 B5 : ABlk) (C : List AV) : AHeap := [ABlk.cells W 1 Md.far none, ABlk.cells V 1 Md.far none, cells (itP P) 19 Md.own none, cells (itP Q) 19 Md.own none, ABlk.dead, cells (List.take (((ou % i64.wrap ((q : Int) + 1)).toNat - 0) * 19) (itP Q)) 19 Md.ro none, cells (List.take ((0 + ((ou % i64.wrap ((q : Int) + 1)).toNat - 0)) * 19) (List.take (((ou % i64.wrap ((q : Int) + 1)).toNat - 0) * 19) (itP Q)) ++ List.take ((q - (i64.wrap (ou % i64.wrap ((q : Int) + 1) + 1)).toNat) * 19) (List.drop (0 + (i64.wrap (ou % i64.wrap ((q : Int) + 1) + 1)).toNat * 19) (itP Q))) 19 Md.own (some 5)]
noncomputable def hSTBm5 (q1 : Prop) (W V : List AV) (w v : Nat) (ou n : Int) (P Q : PL) (X Y : List DipC) (m q x y k : Nat) (e f g : Int) (B0 B1 B2 B3 B4 B5 : ABlk) (C : List AV) : AHeap := [cells (dipsC X) 18 Md.own none]
noncomputable def hSTBm6 (q1 : Prop) (W V : List AV) (w v : Nat) (ou n : Int) (P Q : PL) (X Y : List DipC) (m q x y k : Nat) (e f g : Int) (B0 B1 B2 B3 B4 B5 : ABlk) (C : List AV) : AHeap := [ABlk.cells W 1 Md.far none, ABlk.cells V 1 Md.far none, cells (itP P) 19 Md.own none, cells (itP Q) 19 Md.own none, ABlk.dead, cells (List.take (((ou % i64.wrap ((q : Int) + 1)).toNat - 0) * 19) (itP Q)) 19 Md.ro none, cells (List.take ((0 + ((ou % i64.wrap ((q : Int) + 1)).toNat - 0)) * 19) (List.take (((ou % i64.wrap ((q : Int) + 1)).toNat - 0) * 19) (itP Q)) ++ List.take ((q - (i64.wrap (ou % i64.wrap ((q : Int) + 1) + 1)).toNat) * 19) (List.drop (0 + (i64.wrap (ou % i64.wrap ((q : Int) + 1) + 1)).toNat * 19) (itP Q))) 19 Md.own (some 5), cells (dipsC X) 18 Md.own none]
noncomputable def hSTBm7 (q1 : Prop) (W V : List AV) (w v : Nat) (ou n : Int) (P Q : PL) (X Y : List DipC) (m q x y k : Nat) (e f g : Int) (B0 B1 B2 B3 B4 B5 : ABlk) (C : List AV) : AHeap := [cells (dipsC Y) 18 Md.own none]
noncomputable def hSTBm8 (q1 : Prop) (W V : List AV) (w v : Nat) (ou n : Int) (P Q : PL) (X Y : List DipC) (m q x y k : Nat) (e f g : Int) (B0 B1 B2 B3 B4 B5 : ABlk) (C : List AV) : AHeap := [ABlk.cells W 1 Md.far none, ABlk.cells V 1 Md.far none, cells (itP P) 19 Md.own none, cells (itP Q) 19 Md.own none, ABlk.dead, cells (List.take (((ou % i64.wrap ((q : Int) + 1)).toNat - 0) * 19) (itP Q)) 19 Md.ro none, cells (List.take ((0 + ((ou % i64.wrap ((q : Int) + 1)).toNat - 0)) * 19) (List.take (((ou % i64.wrap ((q : Int) + 1)).toNat - 0) * 19) (itP Q)) ++ List.take ((q - (i64.wrap (ou % i64.wrap ((q : Int) + 1) + 1)).toNat) * 19) (List.drop (0 + (i64.wrap (ou % i64.wrap ((q : Int) + 1) + 1)).toNat * 19) (itP Q))) 19 Md.own (some 5), cells (dipsC X) 18 Md.own none, cells (dipsC Y) 18 Md.own none]
noncomputable def hSTBm9 (q1 : Prop) (W V : List AV) (w v : Nat) (ou n : Int) (P Q : PL) (X Y : List DipC) (m q x y k : Nat) (e f g : Int) (B0 B1 B2 B3 B4 B5 : ABlk) (C : List AV) : AHeap := [B0, B1, B2, B3, B4, B5, ABlk.cells C 19 Md.own (some 5), cells (dipsC X) 18 Md.own none, cells (dipsC Y) 18 Md.own none]
noncomputable def hSTBm10 (q1 : Prop) (W V : List AV) (w v : Nat) (ou n : Int) (P Q : PL) (X Y : List DipC) (m q x y k : Nat) (e f g : Int) (B0 B1 B2 B3 B4 B5 : ABlk) (C : List AV) : AHeap := []
theorem nfSTBm {R : Type} (q1 : Prop) (W V : List AV) (w v : Nat) (ou n : Int) (P Q : PL) (X Y : List DipC) (m q x y k : Nat) (e f g : Int) (B0 B1 B2 B3 B4 B5 : ABlk) (C : List AV) (K : AV → AHeap → Option R) :
 qrun Try.prog (tST P Q X Y m q x y 7 8 e f) 100 4 [(48, .bool false), (65, .bool true), (106, .bool false)] [(14, fixC q1 mST1 (vSTB1 n k x y 0 0) (hSTB B0 B1 B2 B3 B4 B5 C (dipsC X) (dipsC Y)) (.exit 0) (vSTB1 n k x y g k) (hSTB B0 B1 B2 B3 B4 B5 C (dipsC X) (dipsC Y)))] 5 [.sl (some (0, 0)) w 0 false, .sl (some (1, 0)) v 0 false, .int .i64 ou, .int .i64 n] [.cells W 1 .far none, .cells V 1 .far none] K =
 (if decide ((w : Int) < 2) = true then
 none
 else (if decide ((w : Int) > 30) = true then
 none
 else (if decide ((v : Int) < (w : Int)) = true then
 none
 else (if decide ((v : Int) > 32) = true then
 none
 else (if decide (n < 1) = true then
 none
 else (if decide (n > 64) = false then
 (if cdec (SvR [AV.sl (some (0, 0)) w 0 false, AV.bool false] (hSTBm0 q1 W V w v ou n P Q X Y m q x y k e f g B0 B1 B2 B3 B4 B5 C) (AV.sl (some (2, 0)) m 0 false) (hSTBm1 q1 W V w v ou n P Q X Y m q x y k e f g B0 B1 B2 B3 B4 B5 C)) = true then
 (if 0 ≤ (w : Int) ∧ (w : Int) ≤ (((capOf v 0 false) : Nat) : Int) then
 (if cdec (SvR [AV.sl (some (1, 0)) (((w : Int)).toNat - 0) (roomOf v 0 0 (some (w : Int)).isNone ((w : Int)).toNat false) false, AV.bool false] (hSTBm2 q1 W V w v ou n P Q X Y m q x y k e f g B0 B1 B2 B3 B4 B5 C) (AV.sl (some (3, 0)) q 0 false) (hSTBm3 q1 W V w v ou n P Q X Y m q x y k e f g B0 B1 B2 B3 B4 B5 C)) = true then
 (if decide (0 < i64.wrap ((q : Int) + 1) ∧ i64.wrap ((q : Int) + 1) < 4611686018427387904) = true then
 (if decide (ou % i64.wrap ((q : Int) + 1) < (q : Int)) = true then
 (if 0 ≤ ou % i64.wrap ((q : Int) + 1) ∧ ou % i64.wrap ((q : Int) + 1) ≤ (((capOf q 0 false) : Nat) : Int) then
 (if 0 + ((ou % i64.wrap ((q : Int) + 1)).toNat - 0) * 19 ≤ (itP Q).length then
 (if (2 * (0 + ((ou % i64.wrap ((q : Int) + 1)).toNat - 0)) + 200) * 32 ≤ 281474976710656 ∧ some 19 = some 19 ∧ 0 + ((ou % i64.wrap ((q : Int) + 1)).toNat - 0) ≤ 70368744177664 then
 (if 0 = 0 ∧ 0 = 0 ∧ (0 < (ou % i64.wrap ((q : Int) + 1)).toNat - 0 ∨ 0 = 0) ∧ 19 = 19 ∧ (List.take (((ou % i64.wrap ((q : Int) + 1)).toNat - 0) * 19) (itP Q)).all AV.isCell = true then
 (if 0 ≤ i64.wrap (ou % i64.wrap ((q : Int) + 1) + 1) ∧ i64.wrap (ou % i64.wrap ((q : Int) + 1) + 1) ≤ (q : Int) then
 (if 0 + (i64.wrap (ou % i64.wrap ((q : Int) + 1) + 1)).toNat * 19 + (q - (i64.wrap (ou % i64.wrap ((q : Int) + 1) + 1)).toNat) * 19 ≤ (itP Q).length then
 (if (2 * (0 + ((ou % i64.wrap ((q : Int) + 1)).toNat - 0) + (q - (i64.wrap (ou % i64.wrap ((q : Int) + 1) + 1)).toNat)) + 200) * 32 ≤ 281474976710656 ∧ some 19 = some 19 ∧ 0 + ((ou % i64.wrap ((q : Int) + 1)).toNat - 0) + (q - (i64.wrap (ou % i64.wrap ((q : Int) + 1) + 1)).toNat) ≤ 70368744177664 then
 (if 0 + (0 + ((ou % i64.wrap ((q : Int) + 1)).toNat - 0)) * 19 ≤ (List.take (((ou % i64.wrap ((q : Int) + 1)).toNat - 0) * 19) (itP Q)).length then
 (if 0 = 0 ∧ 0 + (0 + ((ou % i64.wrap ((q : Int) + 1)).toNat - 0)) * 19 = (List.take (((ou % i64.wrap ((q : Int) + 1)).toNat - 0) * 19) (itP Q)).length ∧ (0 < q - (i64.wrap (ou % i64.wrap ((q : Int) + 1) + 1)).toNat ∨ 0 = 0) ∧ 19 = 19 ∧ (List.take ((q - (i64.wrap (ou % i64.wrap ((q : Int) + 1) + 1)).toNat) * 19) (List.drop (0 + (i64.wrap (ou % i64.wrap ((q : Int) + 1) + 1)).toNat * 19) (itP Q))).all AV.isCell = true then
 (if cdec (FlR [AV.sl none 0 0 true, AV.sl (some (2, 0)) m 0 false, int i64 n] (hSTBm4 q1 W V w v ou n P Q X Y m q x y k e f g B0 B1 B2 B3 B4 B5 C) (AV.tup [AV.sl (some (7, 0)) x 0 false, int i64 e]) (hSTBm5 q1 W V w v ou n P Q X Y m q x y k e f g B0 B1 B2 B3 B4 B5 C)) = true then
 (if cdec (FlR [AV.sl (some (7, 0)) x 0 false, AV.sl (some (6, 0)) (0 + ((ou % i64.wrap ((q : Int) + 1)).toNat - 0) + (q - (i64.wrap (ou % i64.wrap ((q : Int) + 1) + 1)).toNat)) 0 false, int i64 n] (hSTBm6 q1 W V w v ou n P Q X Y m q x y k e f g B0 B1 B2 B3 B4 B5 C) (AV.tup [AV.sl (some (8, 0)) y 0 false, int i64 f]) (hSTBm7 q1 W V w v ou n P Q X Y m q x y k e f g B0 B1 B2 B3 B4 B5 C)) = true then
 (if (e != 0) = true then
 none
 else (if (f != 0) = true then
 none
 else (if ((x : Int) != n) = true then
 none
 else (if ((y : Int) != n) = false then
 (if cdec (q1 ∧ [int i64 n, AV.sl (some (6, 0)) (0 + ((ou % i64.wrap ((q : Int) + 1)).toNat - 0) + (q - (i64.wrap (ou % i64.wrap ((q : Int) + 1) + 1)).toNat)) 0 false, AV.sl (some (7, 0)) x 0 false, AV.sl (some (8, 0)) y 0 false, int i64 0, int i64 0] = [int i64 n, AV.sl (some (6, 0)) k 0 false, AV.sl (some (7, 0)) x 0 false, AV.sl (some (8, 0)) y 0 false, int i64 0, int i64 0] ∧ (hSTBm8 q1 W V w v ou n P Q X Y m q x y k e f g B0 B1 B2 B3 B4 B5 C) = (hSTBm9 q1 W V w v ou n P Q X Y m q x y k e f g B0 B1 B2 B3 B4 B5 C)) = true then
 (if cdec (MvR [AV.sl (some (7, 0)) x 0 false, AV.sl (some (8, 0)) y 0 false] (hSTBm9 q1 W V w v ou n P Q X Y m q x y k e f g B0 B1 B2 B3 B4 B5 C) (int i64 (intC MvR [AV.sl (some (7, 0)) x 0 false, AV.sl (some (8, 0)) y 0 false] (hSTBm9 q1 W V w v ou n P Q X Y m q x y k e f g B0 B1 B2 B3 B4 B5 C))) (hSTBm10 q1 W V w v ou n P Q X Y m q x y k e f g B0 B1 B2 B3 B4 B5 C)) = true then
 (if (intC MvR [AV.sl (some (7, 0)) x 0 false, AV.sl (some (8, 0)) y 0 false] (hSTBm9 q1 W V w v ou n P Q X Y m q x y k e f g B0 B1 B2 B3 B4 B5 C) == g) = true then
 K (AV.bool true) ((hSTBm9 q1 W V w v ou n P Q X Y m q x y k e f g B0 B1 B2 B3 B4 B5 C))
 else K (AV.bool false) ((hSTBm9 q1 W V w v ou n P Q X Y m q x y k e f g B0 B1 B2 B3 B4 B5 C)))
 else none) else none) else none))))
 else none) else none) else none) else none) else none) else none) else none) else none) else none) else none) else none) else none) else none) else none) else none) else none) else none)))))) := by
  kernel_rfl


end Go.Proofs.Ytlppbeoiphglcaa.L
