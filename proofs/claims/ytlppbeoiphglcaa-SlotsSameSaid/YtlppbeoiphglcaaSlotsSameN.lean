/- SlotsSame: its rows. -/
import Derived.Test.YtlppbeoiphglcaaSvT
import Derived.Test.YtlppbeoiphglcaaAwake17
set_option autoImplicit false
set_option maxRecDepth 100000
set_option linter.unusedVariables false
set_option linter.unusedSimpArgs false
namespace Go.Proofs.Ytlppbeoiphglcaa.L
open Go Go.Abs
open Go.IntKind
open Go.Abs.AV (int)
open Go.Abs.ABlk (cells)

noncomputable abbrev SM1 := loopIn (bodyOf Try.prog 6) 0
noncomputable abbrev SM2 := loopIn (bodyOf Try.prog 6) 1
def mSM1 : List Bool := List.replicate 1 false ++ List.replicate 1 true ++ List.replicate 3 false ++ List.replicate 1 true ++ List.replicate 4 false ++ List.replicate 1 true ++ List.replicate 118 false
def mSM2 : List Bool := List.replicate 1 false ++ List.replicate 1 true ++ List.replicate 3 false ++ List.replicate 1 true ++ List.replicate 5 false ++ List.replicate 2 true ++ List.replicate 116 false
noncomputable def tSM (P : PL) (L : List Int) (X Y : List DipC) (k l x y : Nat) (e f : Int) : Tbl := [(20, entF (eRel SvR [(1, .sl (some (1, 0)) k 0 false, [.cells (itP P) 19 .own none])])), (10, entF (eRel FlR [(2, .tup [.sl (some (2, 0)) x 0 false, .int .i64 e], [.cells (dipsC X) 18 .own none]), (3, .tup [.sl (some (3, 0)) y 0 false, .int .i64 f], [.cells (dipsC Y) 18 .own none])])), (18, entF (eRelI MvR)), (15, entF (eRel ShR [(4, .sl (some (4, 0)) l 0 false, [.cells (intL L) 1 .own none])])), (9, entF eAwake)]
noncomputable abbrev tSML : Tbl := tSM [] [] [] [] 0 0 0 0 0 0
theorem tSMOk (P : PL) (L : List Int) (X Y : List DipC) (k l x y : Nat) (e f : Int) : ∀ g E, (tSM P L X Y k l x y e f).find g = some E → SoundE Try.prog g E := find_cons (sSv _) (find_cons (sFl _) (find_cons sMvI (find_cons (sSh _) (find_cons sAwake (find_nil _)))))
def vSM1 (n : Int) (k : Nat) (i : Int) : List AV := [.int .i64 n, .sl (some (1, 0)) k 0 false, .int .i64 i]
def vSM2 (n : Int) (k l : Nat) (i : Int) : List AV := [.int .i64 n, .sl (some (1, 0)) k 0 false, .sl (some (4, 0)) l 0 false, .int .i64 i]
def hSM (W C X Y : List AV) : AHeap := [.cells W 1 .far none, .cells C 19 .own none, .cells X 18 .own none, .cells Y 18 .own none]

noncomputable def hSM1a0 (W C X Y : List AV) (n : Int) (k : Nat) (i : Int) : AHeap := [ABlk.cells W 1 Md.far none, cells (putCells C (0 + i.toNat * 19 + 18) [int i64 (intV C[18]?)]) 19 Md.own none, ABlk.cells X 18 Md.own none, ABlk.cells Y 18 Md.own none]
theorem nfSM1a (W C X Y : List AV) (n : Int) (k : Nat) (i : Int) :
 qround Try.prog tSML 100 4 [(66, .bool true)] noT SM1 mSM1 (vSM1 n k i) (hSM W C X Y) =
 (if decide (i < (k : Int)) = true then
 (if Int.ofNat 0 ≤ Int.ofNat 0 ∧ 0 < (k : Int) then
 (if isIntV i64 C[18]? = true then
 (if 0 ≤ i ∧ i < (k : Int) then
 (if 0 + i.toNat * 19 + 18 + [int i64 (intV C[18]?)].length ≤ C.length ∧ [int i64 (intV C[18]?)].all AV.isCell = true then
 some ((AEx.norm, [int i64 n, AV.sl (some (1, 0)) k 0 false, int i64 (i64.wrap (i + 1))], (hSM1a0 W C X Y n k i)))
 else none) else none) else none) else none) else none) := by
  kernel_rfl

noncomputable def hSM1s0 (W C X Y : List AV) (n : Int) (k : Nat) (i : Int) : AHeap := [ABlk.cells W 1 Md.far none, ABlk.cells C 19 Md.own none, ABlk.cells X 18 Md.own none, ABlk.cells Y 18 Md.own none]
theorem nfSM1s (W C X Y : List AV) (n : Int) (k : Nat) (i : Int) :
 qround Try.prog tSML 100 4 [(66, .bool false)] noT SM1 mSM1 (vSM1 n k i) (hSM W C X Y) =
 (if decide (i < (k : Int)) = false then
 some ((AEx.exit 0, [int i64 n, AV.sl (some (1, 0)) k 0 false, int i64 i], (hSM1s0 W C X Y n k i)))
 else none) := by
  kernel_rfl

noncomputable def hSM2a0 (W C X Y L : List AV) (n : Int) (k l : Nat) (i : Int) : AHeap := [ABlk.cells W 1 Md.far none, ABlk.cells C 19 Md.own none, ABlk.cells X 18 Md.own none, ABlk.cells Y 18 Md.own none, ABlk.cells L 1 Md.own none]
theorem nfSM2a (W C X Y L : List AV) (n : Int) (k l : Nat) (i : Int) :
 qround Try.prog tSML 100 4 [(88, .bool true), (127, .bool false)] noT SM2 mSM2 (vSM2 n k l i) (hSM W C X Y ++ [.cells L 1 .own none]) =
 (if decide (i < (l : Int)) = true then
 (if 0 ≤ i ∧ i < (l : Int) then
 (if isIntV i64 L[0 + i.toNat * 1]? = true then
 (if (k : Int) = 0 then
 none
 else (if (intV L[0 + i.toNat * 1]? != i64.wrap (n.tdiv (k : Int))) = true then
 (if 0 ≤ i ∧ i < (l : Int) then
 (if isIntV i64 L[0 + i.toNat * 1]? = true then
 (if (k : Int) = 0 then
 none
 else (if (intV L[0 + i.toNat * 1]? != i64.wrap (i64.wrap (n.tdiv (k : Int)) + 1)) = true then
 none
 else (if decide (i > 0) = true then
 (if 0 ≤ i ∧ i < (l : Int) then
 (if isIntV i64 L[0 + i.toNat * 1]? = true then
 (if 0 ≤ i64.wrap (i - 1) ∧ i64.wrap (i - 1) < (l : Int) then
 (if isIntV i64 L[0 + (i64.wrap (i - 1)).toNat * 1]? = true then
 (if decide (intV L[0 + i.toNat * 1]? > intV L[0 + (i64.wrap (i - 1)).toNat * 1]?) = false then
 some ((AEx.norm, [int i64 n, AV.sl (some (1, 0)) k 0 false, AV.sl (some (4, 0)) l 0 false, int i64 (i64.wrap (i + 1))], (hSM2a0 W C X Y L n k l i)))
 else none) else none) else none) else none) else none)
 else some ((AEx.norm, [int i64 n, AV.sl (some (1, 0)) k 0 false, AV.sl (some (4, 0)) l 0 false, int i64 (i64.wrap (i + 1))], (hSM2a0 W C X Y L n k l i))))))
 else none) else none)
 else (if decide (i > 0) = true then
 (if 0 ≤ i ∧ i < (l : Int) then
 (if isIntV i64 L[0 + i.toNat * 1]? = true then
 (if 0 ≤ i64.wrap (i - 1) ∧ i64.wrap (i - 1) < (l : Int) then
 (if isIntV i64 L[0 + (i64.wrap (i - 1)).toNat * 1]? = true then
 (if decide (intV L[0 + i.toNat * 1]? > intV L[0 + (i64.wrap (i - 1)).toNat * 1]?) = false then
 some ((AEx.norm, [int i64 n, AV.sl (some (1, 0)) k 0 false, AV.sl (some (4, 0)) l 0 false, int i64 (i64.wrap (i + 1))], (hSM2a0 W C X Y L n k l i)))
 else none) else none) else none) else none) else none)
 else some ((AEx.norm, [int i64 n, AV.sl (some (1, 0)) k 0 false, AV.sl (some (4, 0)) l 0 false, int i64 (i64.wrap (i + 1))], (hSM2a0 W C X Y L n k l i))))))
 else none) else none) else none) := by
  kernel_rfl

noncomputable def hSM2s0 (W C X Y L : List AV) (n : Int) (k l : Nat) (i : Int) : AHeap := [ABlk.cells W 1 Md.far none, ABlk.cells C 19 Md.own none, ABlk.cells X 18 Md.own none, ABlk.cells Y 18 Md.own none, ABlk.cells L 1 Md.own none]
theorem nfSM2s (W C X Y L : List AV) (n : Int) (k l : Nat) (i : Int) :
 qround Try.prog tSML 100 4 [(88, .bool false)] noT SM2 mSM2 (vSM2 n k l i) (hSM W C X Y ++ [.cells L 1 .own none]) =
 (if decide (i < (l : Int)) = false then
 some ((AEx.exit 2, [int i64 n, AV.sl (some (1, 0)) k 0 false, AV.sl (some (4, 0)) l 0 false, int i64 i], (hSM2s0 W C X Y L n k l i)))
 else none) := by
  kernel_rfl

noncomputable def hSMl0 (W : List AV) (w : Nat) (n : Int) : AHeap := [ABlk.cells W 1 Md.far none]
theorem nfSMl {R : Type} (W : List AV) (w : Nat) (n : Int) (K : AV → AHeap → Option R) :
 qrun Try.prog tSML 100 4 [(28, .bool true)] [] 6 [.sl (some (0, 0)) w 0 false, .int .i64 n] [.cells W 1 .far none] K =
 (if decide ((w : Int) < 1) = true then
 K (AV.bool true) ((hSMl0 W w n))
 else (if decide ((w : Int) > 32) = true then
 K (AV.bool true) ((hSMl0 W w n))
 else (if decide (n < 1) = true then
 K (AV.bool true) ((hSMl0 W w n))
 else (if decide (n > 64) = true then
 K (AV.bool true) ((hSMl0 W w n))
 else none)))) := by
  kernel_rfl

noncomputable def hSMm0 (q1 q2 : Prop) (W : List AV) (P P2 : PL) (L : List Int) (X Y : List DipC) (w k l x y : Nat) (e f n : Int) : AHeap := [ABlk.cells W 1 Md.far none]
noncomputable def hSMm1 (q1 q2 : Prop) (W : List AV) (P P2 : PL) (L : List Int) (X Y : List DipC) (w k l x y : Nat) (e f n : Int) : AHeap := [cells (itP P) 19 Md.own none]
noncomputable def hSMm2 (q1 q2 : Prop) (W : List AV) (P P2 : PL) (L : List Int) (X Y : List DipC) (w k l x y : Nat) (e f n : Int) : AHeap := [ABlk.cells W 1 Md.far none, cells (itP P) 19 Md.own none]
noncomputable def hSMm3 (q1 q2 : Prop) (W : List AV) (P P2 : PL) (L : List Int) (X Y : List DipC) (w k l x y : Nat) (e f n : Int) : AHeap := [cells (dipsC X) 18 Md.own none]
noncomputable def hSMm4 (q1 q2 : Prop) (W : List AV) (P P2 : PL) (L : List Int) (X Y : List DipC) (w k l x y : Nat) (e f n : Int) : AHeap := [ABlk.cells W 1 Md.far none, cells (itP P) 19 Md.own none, cells (dipsC X) 18 Md.own none]
noncomputable def hSMm5 (q1 q2 : Prop) (W : List AV) (P P2 : PL) (L : List Int) (X Y : List DipC) (w k l x y : Nat) (e f n : Int) : AHeap := [cells (dipsC Y) 18 Md.own none]
noncomputable def hSMm6 (q1 q2 : Prop) (W : List AV) (P P2 : PL) (L : List Int) (X Y : List DipC) (w k l x y : Nat) (e f n : Int) : AHeap := [ABlk.cells W 1 Md.far none, cells (itP P) 19 Md.own none, cells (dipsC X) 18 Md.own none, cells (dipsC Y) 18 Md.own none]
noncomputable def hSMm7 (q1 q2 : Prop) (W : List AV) (P P2 : PL) (L : List Int) (X Y : List DipC) (w k l x y : Nat) (e f n : Int) : AHeap := []
noncomputable def hSMm8 (q1 q2 : Prop) (W : List AV) (P P2 : PL) (L : List Int) (X Y : List DipC) (w k l x y : Nat) (e f n : Int) : AHeap := [ABlk.cells W 1 Md.far none, cells (itP P2) 19 Md.own none, cells (dipsC X) 18 Md.own none, cells (dipsC Y) 18 Md.own none]
noncomputable def hSMm9 (q1 q2 : Prop) (W : List AV) (P P2 : PL) (L : List Int) (X Y : List DipC) (w k l x y : Nat) (e f n : Int) : AHeap := [cells (intL L) 1 Md.own none]
noncomputable def hSMm10 (q1 q2 : Prop) (W : List AV) (P P2 : PL) (L : List Int) (X Y : List DipC) (w k l x y : Nat) (e f n : Int) : AHeap := [ABlk.cells W 1 Md.far none, cells (itP P2) 19 Md.own none, cells (dipsC X) 18 Md.own none, cells (dipsC Y) 18 Md.own none, cells (intL L) 1 Md.own none]
theorem nfSMm {R : Type} (q1 q2 : Prop) (W : List AV) (P P2 : PL) (L : List Int) (X Y : List DipC) (w k l x y : Nat) (e f n : Int) (K : AV → AHeap → Option R) :
 qrun Try.prog (tSM P L X Y k l x y e f) 100 4 [(28, .bool false), (62, .bool false), (84, .bool false)] [(9, fixC q1 mSM1 (vSM1 n k 0) (hSM W (itP P) (dipsC X) (dipsC Y)) (.exit 0) (vSM1 n k k) (hSM W (itP P2) (dipsC X) (dipsC Y))), (16, fixC q2 mSM2 (vSM2 n k l 0) (hSM W (itP P2) (dipsC X) (dipsC Y) ++ [.cells (intL L) 1 .own none]) (.exit 2) (vSM2 n k l l) (hSM W (itP P2) (dipsC X) (dipsC Y) ++ [.cells (intL L) 1 .own none]))] 6 [.sl (some (0, 0)) w 0 false, .int .i64 n] [.cells W 1 .far none] K =
 (if decide ((w : Int) < 1) = true then
 none
 else (if decide ((w : Int) > 32) = true then
 none
 else (if decide (n < 1) = true then
 none
 else (if decide (n > 64) = false then
 (if cdec (SvR [AV.sl (some (0, 0)) w 0 false, AV.bool false] (hSMm0 q1 q2 W P P2 L X Y w k l x y e f n) (AV.sl (some (1, 0)) k 0 false) (hSMm1 q1 q2 W P P2 L X Y w k l x y e f n)) = true then
 (if cdec (FlR [AV.sl none 0 0 true, AV.sl (some (1, 0)) k 0 false, int i64 n] (hSMm2 q1 q2 W P P2 L X Y w k l x y e f n) (AV.tup [AV.sl (some (2, 0)) x 0 false, int i64 e]) (hSMm3 q1 q2 W P P2 L X Y w k l x y e f n)) = true then
 (if cdec (FlR [AV.sl (some (2, 0)) x 0 false, AV.sl (some (1, 0)) k 0 false, int i64 n] (hSMm4 q1 q2 W P P2 L X Y w k l x y e f n) (AV.tup [AV.sl (some (3, 0)) y 0 false, int i64 f]) (hSMm5 q1 q2 W P P2 L X Y w k l x y e f n)) = true then
 (if (e != 0) = true then
 none
 else (if (f != 0) = true then
 none
 else (if ((x : Int) != n) = true then
 none
 else (if cdec (MvR [AV.sl (some (2, 0)) x 0 false, AV.sl (some (3, 0)) y 0 false] (hSMm6 q1 q2 W P P2 L X Y w k l x y e f n) (int i64 (intC MvR [AV.sl (some (2, 0)) x 0 false, AV.sl (some (3, 0)) y 0 false] (hSMm6 q1 q2 W P P2 L X Y w k l x y e f n))) (hSMm7 q1 q2 W P P2 L X Y w k l x y e f n)) = true then
 (if (intC MvR [AV.sl (some (2, 0)) x 0 false, AV.sl (some (3, 0)) y 0 false] (hSMm6 q1 q2 W P P2 L X Y w k l x y e f n) != 0) = false then
 (if cdec (q1 ∧ [int i64 n, AV.sl (some (1, 0)) k 0 false, int i64 0] = [int i64 n, AV.sl (some (1, 0)) k 0 false, int i64 0] ∧ (hSMm6 q1 q2 W P P2 L X Y w k l x y e f n) = (hSMm6 q1 q2 W P P2 L X Y w k l x y e f n)) = true then
 (if cdec (ShR [AV.sl (some (1, 0)) k 0 false, int i64 n] (hSMm8 q1 q2 W P P2 L X Y w k l x y e f n) (AV.sl (some (4, 0)) l 0 false) (hSMm9 q1 q2 W P P2 L X Y w k l x y e f n)) = true then
 (if ((l : Int) != (k : Int)) = false then
 (if cdec (q2 ∧ [int i64 n, AV.sl (some (1, 0)) k 0 false, AV.sl (some (4, 0)) l 0 false, int i64 0] = [int i64 n, AV.sl (some (1, 0)) k 0 false, AV.sl (some (4, 0)) l 0 false, int i64 0] ∧ (hSMm10 q1 q2 W P P2 L X Y w k l x y e f n) = (hSMm10 q1 q2 W P P2 L X Y w k l x y e f n)) = true then
 K (AV.bool true) ((hSMm10 q1 q2 W P P2 L X Y w k l x y e f n))
 else none) else none) else none) else none) else none) else none))))
 else none) else none) else none) else none)))) := by
  kernel_rfl


end Go.Proofs.Ytlppbeoiphglcaa.L
