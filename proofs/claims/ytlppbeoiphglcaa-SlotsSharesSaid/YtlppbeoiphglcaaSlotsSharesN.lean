/- SlotsShares: its rows. -/
import Derived.Test.YtlppbeoiphglcaaSvT
import Derived.Test.YtlppbeoiphglcaaAwake17
set_option autoImplicit false
set_option maxRecDepth 100000
set_option linter.unusedVariables false
set_option linter.unusedSimpArgs false
namespace Go.Proofs.Ytlppbeoiphglcaa.L
open Go Go.Abs
open Go.IntKind
open Go.Abs.AV (int)
open Go.Abs.ABlk (cells)

noncomputable abbrev SS1 := loopIn (bodyOf Try.prog 4) 0
noncomputable abbrev SS2 := loopIn (bodyOf Try.prog 4) 1
noncomputable abbrev SS3 := loopIn SS2 0
def mSS1 : List Bool := List.replicate 1 false ++ List.replicate 1 true ++ List.replicate 3 false ++ List.replicate 3 true ++ List.replicate 1 false ++ List.replicate 3 true ++ List.replicate 143 false
def mSS2 : List Bool := List.replicate 1 false ++ List.replicate 1 true ++ List.replicate 3 false ++ List.replicate 3 true ++ List.replicate 1 false ++ List.replicate 1 true ++ List.replicate 2 false ++ List.replicate 1 true ++ List.replicate 142 false
def mSS3 : List Bool := List.replicate 1 false ++ List.replicate 1 true ++ List.replicate 3 false ++ List.replicate 3 true ++ List.replicate 1 false ++ List.replicate 1 true ++ List.replicate 2 false ++ List.replicate 1 true ++ List.replicate 1 false ++ List.replicate 1 true ++ List.replicate 140 false
noncomputable def tSS (P : PL) (L : List Int) (X : List DipC) (k l x : Nat) (e : Int) : Tbl := [(20, entF (eRel SvR [(1, .sl (some (1, 0)) k 0 false, [.cells (itP P) 19 .own none])])), (15, entF (eRel ShR [(2, .sl (some (2, 0)) l 0 false, [.cells (intL L) 1 .own none])])), (10, entF (eRel FlR [(3, .tup [.sl (some (3, 0)) x 0 false, .int .i64 e], [.cells (dipsC X) 18 .own none])])), (21, entF (eRelI CnR)), (9, entF eAwake)]
noncomputable abbrev tSSL : Tbl := tSS [] [] [] 0 0 0 0
theorem tSSOk (P : PL) (L : List Int) (X : List DipC) (k l x : Nat) (e : Int) : ∀ f E, (tSS P L X k l x e).find f = some E → SoundE Try.prog f E := find_cons (sSv _) (find_cons (sSh _) (find_cons (sFl _) (find_cons sCnI (find_cons sAwake (find_nil _)))))
noncomputable def tellSS (vs : List AV) (h : AHeap) : List AV × AHeap := match vs with
  | [n, m, l, s, u, i, j] => ([n, m, l, s, u, i, .int .i64 (nOf m)], h)
  | _ => (vs, h)
noncomputable abbrev bSS3 := roundG Try.prog (deepT Try.prog tSSL 100 4) (lsT noT) SS3 mSS3
noncomputable def lsSS : LoopTT := mixT [(23, fixS bSS3 mSS3 (.exit 4) tellSS)] noT
theorem lsSSOk : LoopsOk Try.prog (lsT lsSS) SS2 := by
  unfold lsSS
  rw [mixT_ls]
  have hl : loopsOf SS2 = [SS3] := by kernel_rfl
  intro b hb s hs
  rw [hl] at hb
  simp only [List.mem_cons, List.not_mem_nil, or_false] at hb
  unfold mixLS at hs
  subst hb
  rw [show firstReg SS3 = 23 by kernel_rfl] at hs
  simp only [lsOf, if_true] at hs
  cases hs
  exact fixS_sound (tSSOk _ _ _ _ _ _ _) (noLoops (by kernel_rfl))
def vSS1 (n : Int) (k l x : Nat) (u a i : Int) : List AV := [.int .i64 n, .sl (some (1, 0)) k 0 false, .sl (some (2, 0)) l 0 false, .sl (some (3, 0)) x 0 false, .int .i64 u, .int .i64 a, .int .i64 i]
def vSS2 (n : Int) (k l x : Nat) (u i : Int) : List AV := [.int .i64 n, .sl (some (1, 0)) k 0 false, .sl (some (2, 0)) l 0 false, .sl (some (3, 0)) x 0 false, .int .i64 u, .int .i64 i]
def vSS3 (n : Int) (k l x : Nat) (u i j : Int) : List AV := [.int .i64 n, .sl (some (1, 0)) k 0 false, .sl (some (2, 0)) l 0 false, .sl (some (3, 0)) x 0 false, .int .i64 u, .int .i64 i, .int .i64 j]
def hSS (W C L X : List AV) : AHeap := [.cells W 1 .far none, .cells C 19 .own none, .cells L 1 .own none, .cells X 18 .own none]

noncomputable def hSS1a0 (W C L X : List AV) (n : Int) (k l x : Nat) (u a i : Int) : AHeap := [ABlk.cells W 1 Md.far none, ABlk.cells C 19 Md.own none, ABlk.cells L 1 Md.own none, ABlk.cells X 18 Md.own none]
theorem nfSS1a (W C L X : List AV) (n : Int) (k l x : Nat) (u a i : Int) :
 qround Try.prog tSSL 100 4 [(64, .bool true)] noT SS1 mSS1 (vSS1 n k l x u a i) (hSS W C L X) =
 (if decide (i < (k : Int)) = true then
 (if 0 ≤ i ∧ i < (k : Int) then
 (if isIntV i64 C[0 + i.toNat * 19 + 18]? = true then
 (if 0 ≤ i ∧ i < (l : Int) then
 (if isIntV i64 L[0 + i.toNat * 1]? = true then
 some ((AEx.norm, [int i64 n, AV.sl (some (1, 0)) k 0 false, AV.sl (some (2, 0)) l 0 false, AV.sl (some (3, 0)) x 0 false, int i64 (i64.wrap (u + intV C[0 + i.toNat * 19 + 18]?)), int i64 (i64.wrap (a + intV L[0 + i.toNat * 1]?)), int i64 (i64.wrap (i + 1))], (hSS1a0 W C L X n k l x u a i)))
 else none) else none) else none) else none) else none) := by
  kernel_rfl

noncomputable def hSS1s0 (W C L X : List AV) (n : Int) (k l x : Nat) (u a i : Int) : AHeap := [ABlk.cells W 1 Md.far none, ABlk.cells C 19 Md.own none, ABlk.cells L 1 Md.own none, ABlk.cells X 18 Md.own none]
theorem nfSS1s (W C L X : List AV) (n : Int) (k l x : Nat) (u a i : Int) :
 qround Try.prog tSSL 100 4 [(64, .bool false)] noT SS1 mSS1 (vSS1 n k l x u a i) (hSS W C L X) =
 (if decide (i < (k : Int)) = false then
 some ((AEx.exit 0, [int i64 n, AV.sl (some (1, 0)) k 0 false, AV.sl (some (2, 0)) l 0 false, AV.sl (some (3, 0)) x 0 false, int i64 u, int i64 a, int i64 i], (hSS1s0 W C L X n k l x u a i)))
 else none) := by
  kernel_rfl

noncomputable def hSS2a0 (W C L X : List AV) (n : Int) (k l x : Nat) (u i : Int) : AHeap := [ABlk.cells W 1 Md.far none, ABlk.cells C 19 Md.own none, ABlk.cells L 1 Md.own none, ABlk.cells X 18 Md.own none]
noncomputable def hSS2a1 (W C L X : List AV) (n : Int) (k l x : Nat) (u i : Int) : AHeap := []
theorem nfSS2a (W C L X : List AV) (n : Int) (k l x : Nat) (u i : Int) :
 qround Try.prog tSSL 100 4 [(86, .bool true), (125, .bool false)] lsSS SS2 mSS2 (vSS2 n k l x u i) (hSS W C L X) =
 (if decide (i < (k : Int)) = true then
 (if 0 ≤ i ∧ i < (l : Int) then
 (if isIntV i64 L[0 + i.toNat * 1]? = true then
 (if 0 ≤ i ∧ i < (k : Int) then
 (if isIntV i64 C[0 + i.toNat * 19 + 18]? = true then
 (if decide (i64.wrap (i64.wrap (intV L[0 + i.toNat * 1]? * u) - i64.wrap (n * intV C[0 + i.toNat * 19 + 18]?)) ≤ i64.wrap (0 - u)) = true then
 none
 else (if decide (i64.wrap (i64.wrap (intV L[0 + i.toNat * 1]? * u) - i64.wrap (n * intV C[0 + i.toNat * 19 + 18]?)) ≥ u) = true then
 none
 else (if 0 ≤ i ∧ i < (k : Int) then
 (if 0 + i.toNat * 19 + 0 + 18 ≤ C.length then
 (if cdec (CnR [AV.sl (some (3, 0)) x 0 false, AV.agg (List.take 18 (List.drop (0 + i.toNat * 19 + 0) C))] (hSS2a0 W C L X n k l x u i) (int i64 (intC CnR [AV.sl (some (3, 0)) x 0 false, AV.agg (List.take 18 (List.drop (0 + i.toNat * 19 + 0) C))] (hSS2a0 W C L X n k l x u i))) (hSS2a1 W C L X n k l x u i)) = true then
 (if 0 ≤ i ∧ i < (l : Int) then
 (if isIntV i64 L[0 + i.toNat * 1]? = true then
 (if (intC CnR [AV.sl (some (3, 0)) x 0 false, AV.agg (List.take 18 (List.drop (0 + i.toNat * 19 + 0) C))] (hSS2a0 W C L X n k l x u i) != intV L[0 + i.toNat * 1]?) = false then
 (if isIntV i64 L[0 + i.toNat * 1]? = true then
 (if (int i64 (intV L[0 + i.toNat * 1]?)).beq (int i64 (intV L[0 + i.toNat * 1]?)) = true then
 (if cdec (LSays bSS3 4 [int i64 n, AV.sl (some (1, 0)) k 0 false, AV.sl (some (2, 0)) l 0 false, AV.sl (some (3, 0)) x 0 false, int i64 u, int i64 i, int i64 0] (hSS2a0 W C L X n k l x u i) (AEx.exit 4) [int i64 n, AV.sl (some (1, 0)) k 0 false, AV.sl (some (2, 0)) l 0 false, AV.sl (some (3, 0)) x 0 false, int i64 u, int i64 i, int i64 (((nOf (AV.sl (some (1, 0)) k 0 false)) : Nat) : Int)] (hSS2a0 W C L X n k l x u i)) = true then
 some ((AEx.norm, [int i64 n, AV.sl (some (1, 0)) k 0 false, AV.sl (some (2, 0)) l 0 false, AV.sl (some (3, 0)) x 0 false, int i64 u, int i64 (i64.wrap (i + 1))], (hSS2a0 W C L X n k l x u i)))
 else none) else none) else none) else none) else none) else none) else none) else none) else none)))
 else none) else none) else none) else none) else none) := by
  kernel_rfl

noncomputable def hSS2s0 (W C L X : List AV) (n : Int) (k l x : Nat) (u i : Int) : AHeap := [ABlk.cells W 1 Md.far none, ABlk.cells C 19 Md.own none, ABlk.cells L 1 Md.own none, ABlk.cells X 18 Md.own none]
theorem nfSS2s (W C L X : List AV) (n : Int) (k l x : Nat) (u i : Int) :
 qround Try.prog tSSL 100 4 [(86, .bool false)] lsSS SS2 mSS2 (vSS2 n k l x u i) (hSS W C L X) =
 (if decide (i < (k : Int)) = false then
 some ((AEx.exit 2, [int i64 n, AV.sl (some (1, 0)) k 0 false, AV.sl (some (2, 0)) l 0 false, AV.sl (some (3, 0)) x 0 false, int i64 u, int i64 i], (hSS2s0 W C L X n k l x u i)))
 else none) := by
  kernel_rfl

noncomputable def hSS3a0 (W C L X : List AV) (n : Int) (k l x : Nat) (u i j : Int) : AHeap := [ABlk.cells W 1 Md.far none, ABlk.cells C 19 Md.own none, ABlk.cells L 1 Md.own none, ABlk.cells X 18 Md.own none]
theorem nfSS3a (W C L X : List AV) (n : Int) (k l x : Nat) (u i j : Int) :
 qround Try.prog tSSL 100 4 [(129, .bool true), (153, .bool false)] noT SS3 mSS3 (vSS3 n k l x u i j) (hSS W C L X) =
 (if decide (j < (k : Int)) = true then
 (if 0 ≤ j ∧ j < (k : Int) then
 (if isIntV i64 C[0 + j.toNat * 19 + 18]? = true then
 (if 0 ≤ i ∧ i < (k : Int) then
 (if isIntV i64 C[0 + i.toNat * 19 + 18]? = true then
 (if decide (intV C[0 + j.toNat * 19 + 18]? > intV C[0 + i.toNat * 19 + 18]?) = true then
 (if 0 ≤ j ∧ j < (l : Int) then
 (if isIntV i64 L[0 + j.toNat * 1]? = true then
 (if 0 ≤ i ∧ i < (l : Int) then
 (if isIntV i64 L[0 + i.toNat * 1]? = true then
 (if decide (intV L[0 + j.toNat * 1]? < intV L[0 + i.toNat * 1]?) = false then
 some ((AEx.norm, [int i64 n, AV.sl (some (1, 0)) k 0 false, AV.sl (some (2, 0)) l 0 false, AV.sl (some (3, 0)) x 0 false, int i64 u, int i64 i, int i64 (i64.wrap (j + 1))], (hSS3a0 W C L X n k l x u i j)))
 else none) else none) else none) else none) else none)
 else some ((AEx.norm, [int i64 n, AV.sl (some (1, 0)) k 0 false, AV.sl (some (2, 0)) l 0 false, AV.sl (some (3, 0)) x 0 false, int i64 u, int i64 i, int i64 (i64.wrap (j + 1))], (hSS3a0 W C L X n k l x u i j))))
 else none) else none) else none) else none) else none) := by
  kernel_rfl

noncomputable def hSS3s0 (W C L X : List AV) (n : Int) (k l x : Nat) (u i j : Int) : AHeap := [ABlk.cells W 1 Md.far none, ABlk.cells C 19 Md.own none, ABlk.cells L 1 Md.own none, ABlk.cells X 18 Md.own none]
theorem nfSS3s (W C L X : List AV) (n : Int) (k l x : Nat) (u i j : Int) :
 qround Try.prog tSSL 100 4 [(129, .bool false)] noT SS3 mSS3 (vSS3 n k l x u i j) (hSS W C L X) =
 (if decide (j < (k : Int)) = false then
 some ((AEx.exit 4, [int i64 n, AV.sl (some (1, 0)) k 0 false, AV.sl (some (2, 0)) l 0 false, AV.sl (some (3, 0)) x 0 false, int i64 u, int i64 i, int i64 j], (hSS3s0 W C L X n k l x u i j)))
 else none) := by
  kernel_rfl

noncomputable def hSSl0 (W : List AV) (w : Nat) (n : Int) : AHeap := [ABlk.cells W 1 Md.far none]
theorem nfSSl {R : Type} (W : List AV) (w : Nat) (n : Int) (K : AV → AHeap → Option R) :
 qrun Try.prog tSSL 100 4 [(30, .bool true)] [] 4 [.sl (some (0, 0)) w 0 false, .int .i64 n] [.cells W 1 .far none] K =
 (if decide ((w : Int) < 1) = true then
 K (AV.bool true) ((hSSl0 W w n))
 else (if decide ((w : Int) > 32) = true then
 K (AV.bool true) ((hSSl0 W w n))
 else (if decide (n < 1) = true then
 K (AV.bool true) ((hSSl0 W w n))
 else (if decide (n > 64) = true then
 K (AV.bool true) ((hSSl0 W w n))
 else none)))) := by
  kernel_rfl

noncomputable def hSSm0 (q1 q2 : Prop) (W : List AV) (P : PL) (L : List Int) (X : List DipC) (w k l x : Nat) (e n u a : Int) : AHeap := [ABlk.cells W 1 Md.far none]
noncomputable def hSSm1 (q1 q2 : Prop) (W : List AV) (P : PL) (L : List Int) (X : List DipC) (w k l x : Nat) (e n u a : Int) : AHeap := [cells (itP P) 19 Md.own none]
noncomputable def hSSm2 (q1 q2 : Prop) (W : List AV) (P : PL) (L : List Int) (X : List DipC) (w k l x : Nat) (e n u a : Int) : AHeap := [ABlk.cells W 1 Md.far none, cells (itP P) 19 Md.own none]
noncomputable def hSSm3 (q1 q2 : Prop) (W : List AV) (P : PL) (L : List Int) (X : List DipC) (w k l x : Nat) (e n u a : Int) : AHeap := [cells (intL L) 1 Md.own none]
noncomputable def hSSm4 (q1 q2 : Prop) (W : List AV) (P : PL) (L : List Int) (X : List DipC) (w k l x : Nat) (e n u a : Int) : AHeap := [ABlk.cells W 1 Md.far none, cells (itP P) 19 Md.own none, cells (intL L) 1 Md.own none]
noncomputable def hSSm5 (q1 q2 : Prop) (W : List AV) (P : PL) (L : List Int) (X : List DipC) (w k l x : Nat) (e n u a : Int) : AHeap := [cells (dipsC X) 18 Md.own none]
noncomputable def hSSm6 (q1 q2 : Prop) (W : List AV) (P : PL) (L : List Int) (X : List DipC) (w k l x : Nat) (e n u a : Int) : AHeap := [ABlk.cells W 1 Md.far none, cells (itP P) 19 Md.own none, cells (intL L) 1 Md.own none, cells (dipsC X) 18 Md.own none]
theorem nfSSm {R : Type} (q1 q2 : Prop) (W : List AV) (P : PL) (L : List Int) (X : List DipC) (w k l x : Nat) (e n u a : Int) (K : AV → AHeap → Option R) :
 qrun Try.prog (tSS P L X k l x e) 100 4 [(30, .bool false), (60, .bool false), (82, .bool false)] [(10, fixC q1 mSS1 (vSS1 n k l x 0 0 0) (hSS W (itP P) (intL L) (dipsC X)) (.exit 0) (vSS1 n k l x u a k) (hSS W (itP P) (intL L) (dipsC X))), (17, fixC q2 mSS2 (vSS2 n k l x u 0) (hSS W (itP P) (intL L) (dipsC X)) (.exit 2) (vSS2 n k l x u k) (hSS W (itP P) (intL L) (dipsC X)))] 4 [.sl (some (0, 0)) w 0 false, .int .i64 n] [.cells W 1 .far none] K =
 (if decide ((w : Int) < 1) = true then
 none
 else (if decide ((w : Int) > 32) = true then
 none
 else (if decide (n < 1) = true then
 none
 else (if decide (n > 64) = false then
 (if cdec (SvR [AV.sl (some (0, 0)) w 0 false, AV.bool (n.tmod 2 == 0)] (hSSm0 q1 q2 W P L X w k l x e n u a) (AV.sl (some (1, 0)) k 0 false) (hSSm1 q1 q2 W P L X w k l x e n u a)) = true then
 (if cdec (ShR [AV.sl (some (1, 0)) k 0 false, int i64 n] (hSSm2 q1 q2 W P L X w k l x e n u a) (AV.sl (some (2, 0)) l 0 false) (hSSm3 q1 q2 W P L X w k l x e n u a)) = true then
 (if cdec (FlR [AV.sl none 0 0 true, AV.sl (some (1, 0)) k 0 false, int i64 n] (hSSm4 q1 q2 W P L X w k l x e n u a) (AV.tup [AV.sl (some (3, 0)) x 0 false, int i64 e]) (hSSm5 q1 q2 W P L X w k l x e n u a)) = true then
 (if (e != 0) = true then
 none
 else (if ((l : Int) != (k : Int)) = true then
 none
 else (if ((x : Int) != n) = false then
 (if cdec (q1 ∧ [int i64 n, AV.sl (some (1, 0)) k 0 false, AV.sl (some (2, 0)) l 0 false, AV.sl (some (3, 0)) x 0 false, int i64 0, int i64 0, int i64 0] = [int i64 n, AV.sl (some (1, 0)) k 0 false, AV.sl (some (2, 0)) l 0 false, AV.sl (some (3, 0)) x 0 false, int i64 0, int i64 0, int i64 0] ∧ (hSSm6 q1 q2 W P L X w k l x e n u a) = (hSSm6 q1 q2 W P L X w k l x e n u a)) = true then
 (if (a != n) = false then
 (if cdec (q2 ∧ [int i64 n, AV.sl (some (1, 0)) k 0 false, AV.sl (some (2, 0)) l 0 false, AV.sl (some (3, 0)) x 0 false, int i64 u, int i64 0] = [int i64 n, AV.sl (some (1, 0)) k 0 false, AV.sl (some (2, 0)) l 0 false, AV.sl (some (3, 0)) x 0 false, int i64 u, int i64 0] ∧ (hSSm6 q1 q2 W P L X w k l x e n u a) = (hSSm6 q1 q2 W P L X w k l x e n u a)) = true then
 K (AV.bool true) ((hSSm6 q1 q2 W P L X w k l x e n u a))
 else none) else none) else none) else none)))
 else none) else none) else none) else none)))) := by
  kernel_rfl


end Go.Proofs.Ytlppbeoiphglcaa.L
