/- The reference's Fill: its rows. -/
import Derived.Test.YtlppbeoiphglcaaRhL
set_option autoImplicit false
set_option maxRecDepth 100000
set_option linter.unusedVariables false
set_option linter.unusedSimpArgs false
namespace Go.Proofs.Ytlppbeoiphglcaa.L
open Go Go.Abs
open Go.IntKind
open Go.Abs.AV (int)
open Go.Abs.ABlk (cells)

noncomputable abbrev RF1 := loopIn (bodyOf Try.prog 11) 0
noncomputable abbrev RF2 := loopIn (bodyOf Try.prog 11) 1
noncomputable abbrev RF3 := loopIn RF2 0
def mRf1 : List Bool := List.replicate 3 true ++ List.replicate 5 false ++ List.replicate 4 true ++ List.replicate 113 false
def mRf2 : List Bool := List.replicate 1 false ++ List.replicate 2 true ++ List.replicate 5 false ++ List.replicate 3 true ++ List.replicate 2 false ++ List.replicate 1 true ++ List.replicate 111 false
def mRf3 : List Bool := List.replicate 1 false ++ List.replicate 2 true ++ List.replicate 5 false ++ List.replicate 3 true ++ List.replicate 2 false ++ List.replicate 2 true ++ List.replicate 110 false
noncomputable def tRf (k : Nat) (L : List Int) : Tbl := [(25, entF (eRelI PlR)), (13, entF eMb), (16, entF (eRel RhR [(2, .sl (some (2, 0)) k 0 false, [.cells (intL L) 1 .own none])]))]
theorem tRfOk (k : Nat) (L : List Int) : ∀ f E, (tRf k L).find f = some E → SoundE Try.prog f E := find_cons sPlI (find_cons sMb (find_cons (sRh _) (find_nil _)))
noncomputable abbrev tRfL : Tbl := tRf 0 []
noncomputable def keptB (vs : List AV) (h : AHeap) : Bool := match vs with
  | [_, _, _, _, kp, .int .i64 i, _] => opq (boolV (rowOf h kp)[i.toNat]?)
  | _ => false
noncomputable def tellRf1 (vs : List AV) (h : AHeap) : List AV × AHeap := (vs, h)
noncomputable def tellRf2 (vs : List AV) (h : AHeap) : List AV × AHeap := match vs, h with
  | [m, n, l, o, kp, .int .i64 i, _], [b0, b1, .cells L 1 .own none, .cells X 18 .own none, .cells K 1 .own none] =>
    ([m, n, l, o, kp, .int .i64 i, .int .i64 (opq (nzN (ilOf L) 0 + 1 : Nat))], [b0, b1, .cells (opq (intL ((ilOf L).set (nzN (ilOf L) 0) ((ilOf L).getD (nzN (ilOf L) 0) 0 - 1)))) 1 .own none, .cells (opq (putCells X (i.toNat * 18) (((plOf (rowOf h m)).getD (nzN (ilOf L) 0) (zD, 0)).1.cells))) 18 .own none, .cells (opq (K.set i.toNat (.bool true))) 1 .own none])
  | _, _ => (vs, h)
noncomputable abbrev bRf3 := roundG Try.prog (deepT Try.prog tRfL 100 4) (lsT noT) RF3 mRf3
noncomputable def lsRf : LoopTT := mixT [(19, orF mRf3 keptB (fixS bRf3 mRf3 (.exit 4) tellRf1) (fixS bRf3 mRf3 (.exit 4) tellRf2))] noT
theorem lsRfOk : LoopsOk Try.prog (lsT lsRf) RF2 := by
  unfold lsRf
  rw [mixT_ls]
  have hl : loopsOf RF2 = [RF3] := by kernel_rfl
  intro b hb s hs
  rw [hl] at hb
  simp only [List.mem_cons, List.not_mem_nil, or_false] at hb
  unfold mixLS at hs
  subst hb
  rw [show firstReg RF3 = 19 by kernel_rfl] at hs
  simp only [lsOf, if_true] at hs
  cases hs
  exact orF_sound (fixS_sound (tRfOk _ _) (noLoops (by kernel_rfl))) (fixS_sound (tRfOk _ _) (noLoops (by kernel_rfl)))
def vRf1 (o k n l : Nat) (i : Int) : List AV := [.sl (some (0, 0)) o 0 false, .sl (some (1, 0)) k 0 false, .int .i64 n, .sl (some (2, 0)) l 0 false, .sl (some (3, 0)) n 0 false, .sl (some (4, 0)) n 0 false, .int .i64 i]
def vRf2 (k n l : Nat) (i : Int) : List AV := [.sl (some (1, 0)) k 0 false, .int .i64 n, .sl (some (2, 0)) l 0 false, .sl (some (3, 0)) n 0 false, .sl (some (4, 0)) n 0 false, .int .i64 i]
def vRf3 (k n l : Nat) (i j : Int) : List AV := [.sl (some (1, 0)) k 0 false, .int .i64 n, .sl (some (2, 0)) l 0 false, .sl (some (3, 0)) n 0 false, .sl (some (4, 0)) n 0 false, .int .i64 i, .int .i64 j]
def hRf (O C L X K : List AV) : AHeap := [.cells O 18 .far none, .cells C 19 .far none, .cells L 1 .own none, .cells X 18 .own none, .cells K 1 .own none]

noncomputable def hRf1a0 (O C L X Kp : List AV) (o k n l : Nat) (i : Int) : AHeap := [ABlk.cells O 18 Md.far none, ABlk.cells C 19 Md.far none, ABlk.cells L 1 Md.own none, ABlk.cells X 18 Md.own none, ABlk.cells Kp 1 Md.own none]
noncomputable def hRf1a1 (O C L X Kp : List AV) (o k n l : Nat) (i : Int) : AHeap := []
noncomputable def hRf1a2 (O C L X Kp : List AV) (o k n l : Nat) (i : Int) : AHeap := [ABlk.cells O 18 Md.far none, ABlk.cells C 19 Md.far none, cells (putCells L (0 + (intC PlR [AV.sl (some (1, 0)) k 0 false, AV.agg (List.take 18 (List.drop (0 + i.toNat * 18) O))] (hRf1a0 O C L X Kp o k n l i)).toNat * 1) [int i64 (i64.wrap (intV L[0 + (intC PlR [AV.sl (some (1, 0)) k 0 false, AV.agg (List.take 18 (List.drop (0 + i.toNat * 18) O))] (hRf1a0 O C L X Kp o k n l i)).toNat * 1]? - 1))]) 1 Md.own none, cells (putCells X (0 + i.toNat * 18) (List.take 18 (List.drop (0 + i.toNat * 18) O))) 18 Md.own none, cells (putCells Kp (0 + i.toNat * 1) [AV.bool true]) 1 Md.own none]
theorem nfRf1a (O C L X Kp : List AV) (o k n l : Nat) (i : Int) :
 qround Try.prog tRfL 100 4 [(50, .bool true), (67, .bool true)] noT RF1 mRf1 (vRf1 o k n l i) (hRf O C L X Kp) =
 (if decide (i < (o : Int)) = true then
 (if 0 ≤ i ∧ i < (o : Int) then
 (if 0 + i.toNat * 18 + 18 ≤ O.length then
 (if cdec (PlR [AV.sl (some (1, 0)) k 0 false, AV.agg (List.take 18 (List.drop (0 + i.toNat * 18) O))] (hRf1a0 O C L X Kp o k n l i) (int i64 (intC PlR [AV.sl (some (1, 0)) k 0 false, AV.agg (List.take 18 (List.drop (0 + i.toNat * 18) O))] (hRf1a0 O C L X Kp o k n l i))) (hRf1a1 O C L X Kp o k n l i)) = true then
 (if decide (intC PlR [AV.sl (some (1, 0)) k 0 false, AV.agg (List.take 18 (List.drop (0 + i.toNat * 18) O))] (hRf1a0 O C L X Kp o k n l i) ≥ 0) = true then
 (if 0 ≤ intC PlR [AV.sl (some (1, 0)) k 0 false, AV.agg (List.take 18 (List.drop (0 + i.toNat * 18) O))] (hRf1a0 O C L X Kp o k n l i) ∧ intC PlR [AV.sl (some (1, 0)) k 0 false, AV.agg (List.take 18 (List.drop (0 + i.toNat * 18) O))] (hRf1a0 O C L X Kp o k n l i) < (l : Int) then
 (if isIntV i64 L[0 + (intC PlR [AV.sl (some (1, 0)) k 0 false, AV.agg (List.take 18 (List.drop (0 + i.toNat * 18) O))] (hRf1a0 O C L X Kp o k n l i)).toNat * 1]? = true then
 (if decide (intV L[0 + (intC PlR [AV.sl (some (1, 0)) k 0 false, AV.agg (List.take 18 (List.drop (0 + i.toNat * 18) O))] (hRf1a0 O C L X Kp o k n l i)).toNat * 1]? > 0) = true then
 (if 0 ≤ intC PlR [AV.sl (some (1, 0)) k 0 false, AV.agg (List.take 18 (List.drop (0 + i.toNat * 18) O))] (hRf1a0 O C L X Kp o k n l i) ∧ intC PlR [AV.sl (some (1, 0)) k 0 false, AV.agg (List.take 18 (List.drop (0 + i.toNat * 18) O))] (hRf1a0 O C L X Kp o k n l i) < (l : Int) then
 (if isIntV i64 L[0 + (intC PlR [AV.sl (some (1, 0)) k 0 false, AV.agg (List.take 18 (List.drop (0 + i.toNat * 18) O))] (hRf1a0 O C L X Kp o k n l i)).toNat * 1]? = true then
 (if 0 ≤ intC PlR [AV.sl (some (1, 0)) k 0 false, AV.agg (List.take 18 (List.drop (0 + i.toNat * 18) O))] (hRf1a0 O C L X Kp o k n l i) ∧ intC PlR [AV.sl (some (1, 0)) k 0 false, AV.agg (List.take 18 (List.drop (0 + i.toNat * 18) O))] (hRf1a0 O C L X Kp o k n l i) < (l : Int) then
 (if 0 + (intC PlR [AV.sl (some (1, 0)) k 0 false, AV.agg (List.take 18 (List.drop (0 + i.toNat * 18) O))] (hRf1a0 O C L X Kp o k n l i)).toNat * 1 + [int i64 (i64.wrap (intV L[0 + (intC PlR [AV.sl (some (1, 0)) k 0 false, AV.agg (List.take 18 (List.drop (0 + i.toNat * 18) O))] (hRf1a0 O C L X Kp o k n l i)).toNat * 1]? - 1))].length ≤ L.length ∧ [int i64 (i64.wrap (intV L[0 + (intC PlR [AV.sl (some (1, 0)) k 0 false, AV.agg (List.take 18 (List.drop (0 + i.toNat * 18) O))] (hRf1a0 O C L X Kp o k n l i)).toNat * 1]? - 1))].all AV.isCell = true then
 (if 0 ≤ i ∧ i < (o : Int) then
 (if 0 + i.toNat * 18 + 18 ≤ O.length then
 (if 0 ≤ i ∧ i < (n : Int) then
 (if (List.take 18 (List.drop (0 + i.toNat * 18) O)).length = 18 then
 (if 0 + i.toNat * 18 + (List.take 18 (List.drop (0 + i.toNat * 18) O)).length ≤ X.length ∧ (List.take 18 (List.drop (0 + i.toNat * 18) O)).all AV.isCell = true then
 (if 0 ≤ i ∧ i < (n : Int) then
 (if 0 + i.toNat * 1 + [AV.bool true].length ≤ Kp.length ∧ [AV.bool true].all AV.isCell = true then
 some ((AEx.norm, [AV.sl (some (0, 0)) o 0 false, AV.sl (some (1, 0)) k 0 false, int i64 (n : Int), AV.sl (some (2, 0)) l 0 false, AV.sl (some (3, 0)) n 0 false, AV.sl (some (4, 0)) n 0 false, int i64 (i64.wrap (i + 1))], (hRf1a2 O C L X Kp o k n l i)))
 else none) else none) else none) else none) else none) else none) else none) else none) else none) else none) else none) else none) else none) else none) else none) else none) else none) else none) else none) := by
  kernel_rfl

noncomputable def hRf1b0 (O C L X Kp : List AV) (o k n l : Nat) (i : Int) : AHeap := [ABlk.cells O 18 Md.far none, ABlk.cells C 19 Md.far none, ABlk.cells L 1 Md.own none, ABlk.cells X 18 Md.own none, ABlk.cells Kp 1 Md.own none]
noncomputable def hRf1b1 (O C L X Kp : List AV) (o k n l : Nat) (i : Int) : AHeap := []
theorem nfRf1b (O C L X Kp : List AV) (o k n l : Nat) (i : Int) :
 qround Try.prog tRfL 100 4 [(50, .bool true), (67, .bool false)] noT RF1 mRf1 (vRf1 o k n l i) (hRf O C L X Kp) =
 (if decide (i < (o : Int)) = true then
 (if 0 ≤ i ∧ i < (o : Int) then
 (if 0 + i.toNat * 18 + 18 ≤ O.length then
 (if cdec (PlR [AV.sl (some (1, 0)) k 0 false, AV.agg (List.take 18 (List.drop (0 + i.toNat * 18) O))] (hRf1b0 O C L X Kp o k n l i) (int i64 (intC PlR [AV.sl (some (1, 0)) k 0 false, AV.agg (List.take 18 (List.drop (0 + i.toNat * 18) O))] (hRf1b0 O C L X Kp o k n l i))) (hRf1b1 O C L X Kp o k n l i)) = true then
 (if decide (intC PlR [AV.sl (some (1, 0)) k 0 false, AV.agg (List.take 18 (List.drop (0 + i.toNat * 18) O))] (hRf1b0 O C L X Kp o k n l i) ≥ 0) = true then
 (if 0 ≤ intC PlR [AV.sl (some (1, 0)) k 0 false, AV.agg (List.take 18 (List.drop (0 + i.toNat * 18) O))] (hRf1b0 O C L X Kp o k n l i) ∧ intC PlR [AV.sl (some (1, 0)) k 0 false, AV.agg (List.take 18 (List.drop (0 + i.toNat * 18) O))] (hRf1b0 O C L X Kp o k n l i) < (l : Int) then
 (if isIntV i64 L[0 + (intC PlR [AV.sl (some (1, 0)) k 0 false, AV.agg (List.take 18 (List.drop (0 + i.toNat * 18) O))] (hRf1b0 O C L X Kp o k n l i)).toNat * 1]? = true then
 (if decide (intV L[0 + (intC PlR [AV.sl (some (1, 0)) k 0 false, AV.agg (List.take 18 (List.drop (0 + i.toNat * 18) O))] (hRf1b0 O C L X Kp o k n l i)).toNat * 1]? > 0) = false then
 some ((AEx.norm, [AV.sl (some (0, 0)) o 0 false, AV.sl (some (1, 0)) k 0 false, int i64 (n : Int), AV.sl (some (2, 0)) l 0 false, AV.sl (some (3, 0)) n 0 false, AV.sl (some (4, 0)) n 0 false, int i64 (i64.wrap (i + 1))], (hRf1b0 O C L X Kp o k n l i)))
 else none) else none) else none)
 else some ((AEx.norm, [AV.sl (some (0, 0)) o 0 false, AV.sl (some (1, 0)) k 0 false, int i64 (n : Int), AV.sl (some (2, 0)) l 0 false, AV.sl (some (3, 0)) n 0 false, AV.sl (some (4, 0)) n 0 false, int i64 (i64.wrap (i + 1))], (hRf1b0 O C L X Kp o k n l i))))
 else none) else none) else none) else none) := by
  kernel_rfl

noncomputable def hRf1s0 (O C L X Kp : List AV) (o k n l : Nat) (i : Int) : AHeap := [ABlk.cells O 18 Md.far none, ABlk.cells C 19 Md.far none, ABlk.cells L 1 Md.own none, ABlk.cells X 18 Md.own none, ABlk.cells Kp 1 Md.own none]
theorem nfRf1s (O C L X Kp : List AV) (o k n l : Nat) (i : Int) :
 qround Try.prog tRfL 100 4 [(50, .bool false)] noT RF1 mRf1 (vRf1 o k n l i) (hRf O C L X Kp) =
 (if decide (i < (o : Int)) = false then
 some ((AEx.exit 0, [AV.sl (some (0, 0)) o 0 false, AV.sl (some (1, 0)) k 0 false, int i64 (n : Int), AV.sl (some (2, 0)) l 0 false, AV.sl (some (3, 0)) n 0 false, AV.sl (some (4, 0)) n 0 false, int i64 i], (hRf1s0 O C L X Kp o k n l i)))
 else none) := by
  kernel_rfl

noncomputable def hRf2a0 (O C L X Kp : List AV) (k n l : Nat) (i : Int) : AHeap := [ABlk.cells O 18 Md.far none, ABlk.cells C 19 Md.far none, ABlk.cells L 1 Md.own none, ABlk.cells X 18 Md.own none, ABlk.cells Kp 1 Md.own none]
noncomputable def hRf2a1 (O C L X Kp : List AV) (k n l : Nat) (i : Int) : AHeap := [ABlk.cells O 18 Md.far none, ABlk.cells C 19 Md.far none, cells (opq (intL ((ilOf L).set (nzN (ilOf L) 0) ((ilOf L).getD (nzN (ilOf L) 0) 0 - 1)))) 1 Md.own none, cells (opq (putCells X (i.toNat * 18) (List.getD (plOf (rowOf (hRf2a0 O C L X Kp k n l i) (AV.sl (some (1, 0)) k 0 false))) (nzN (ilOf L) 0) (zD, 0)).fst.cells)) 18 Md.own none, cells (opq (Kp.set i.toNat (AV.bool true))) 1 Md.own none]
theorem nfRf2a (O C L X Kp : List AV) (k n l : Nat) (i : Int) :
 qround Try.prog tRfL 100 4 [(86, .bool true)] lsRf RF2 mRf2 (vRf2 k n l i) (hRf O C L X Kp) =
 (if decide (i < (n : Int)) = true then
 (if keptB [AV.sl (some (1, 0)) k 0 false, int i64 (n : Int), AV.sl (some (2, 0)) l 0 false, AV.sl (some (3, 0)) n 0 false, AV.sl (some (4, 0)) n 0 false, int i64 i, int i64 0] (hRf2a0 O C L X Kp k n l i) = true then
 (if cdec (LSays bRf3 5 [AV.sl (some (1, 0)) k 0 false, int i64 (n : Int), AV.sl (some (2, 0)) l 0 false, AV.sl (some (3, 0)) n 0 false, AV.sl (some (4, 0)) n 0 false, int i64 i, int i64 0] (hRf2a0 O C L X Kp k n l i) (AEx.exit 4) [AV.sl (some (1, 0)) k 0 false, int i64 (n : Int), AV.sl (some (2, 0)) l 0 false, AV.sl (some (3, 0)) n 0 false, AV.sl (some (4, 0)) n 0 false, int i64 i, int i64 0] (hRf2a0 O C L X Kp k n l i)) = true then
 some ((AEx.norm, [AV.sl (some (1, 0)) k 0 false, int i64 (n : Int), AV.sl (some (2, 0)) l 0 false, AV.sl (some (3, 0)) n 0 false, AV.sl (some (4, 0)) n 0 false, int i64 (i64.wrap (i + 1))], (hRf2a0 O C L X Kp k n l i)))
 else none)
 else (if cdec (LSays bRf3 5 [AV.sl (some (1, 0)) k 0 false, int i64 (n : Int), AV.sl (some (2, 0)) l 0 false, AV.sl (some (3, 0)) n 0 false, AV.sl (some (4, 0)) n 0 false, int i64 i, int i64 0] (hRf2a0 O C L X Kp k n l i) (AEx.exit 4) [AV.sl (some (1, 0)) k 0 false, int i64 (n : Int), AV.sl (some (2, 0)) l 0 false, AV.sl (some (3, 0)) n 0 false, AV.sl (some (4, 0)) n 0 false, int i64 i, int i64 (opq (((nzN (ilOf L) 0 + 1) : Nat) : Int))] (hRf2a1 O C L X Kp k n l i)) = true then
 some ((AEx.norm, [AV.sl (some (1, 0)) k 0 false, int i64 (n : Int), AV.sl (some (2, 0)) l 0 false, AV.sl (some (3, 0)) n 0 false, AV.sl (some (4, 0)) n 0 false, int i64 (i64.wrap (i + 1))], (hRf2a1 O C L X Kp k n l i)))
 else none))
 else none) := by
  kernel_rfl

noncomputable def hRf2s0 (O C L X Kp : List AV) (k n l : Nat) (i : Int) : AHeap := [ABlk.cells O 18 Md.far none, ABlk.cells C 19 Md.far none, ABlk.cells L 1 Md.own none, ABlk.cells X 18 Md.own none, ABlk.cells Kp 1 Md.own none]
theorem nfRf2s (O C L X Kp : List AV) (k n l : Nat) (i : Int) :
 qround Try.prog tRfL 100 4 [(86, .bool false)] lsRf RF2 mRf2 (vRf2 k n l i) (hRf O C L X Kp) =
 (if decide (i < (n : Int)) = false then
 some ((AEx.exit 2, [AV.sl (some (1, 0)) k 0 false, int i64 (n : Int), AV.sl (some (2, 0)) l 0 false, AV.sl (some (3, 0)) n 0 false, AV.sl (some (4, 0)) n 0 false, int i64 i], (hRf2s0 O C L X Kp k n l i)))
 else none) := by
  kernel_rfl

noncomputable def hRf3a0 (O C L X Kp : List AV) (k n l : Nat) (i j : Int) : AHeap := [ABlk.cells O 18 Md.far none, ABlk.cells C 19 Md.far none, cells (putCells L (0 + j.toNat * 1) [int i64 (i64.wrap (intV L[0 + j.toNat * 1]? - 1))]) 1 Md.own none, cells (putCells X (0 + i.toNat * 18) (List.take 18 (List.drop (0 + j.toNat * 19 + 0) C))) 18 Md.own none, cells (putCells Kp (0 + i.toNat * 1) [AV.bool true]) 1 Md.own none]
theorem nfRf3a (O C L X Kp : List AV) (k n l : Nat) (i j : Int) :
 qround Try.prog tRfL 100 4 [(99, .bool true), (106, .bool true)] noT RF3 mRf3 (vRf3 k n l i j) (hRf O C L X Kp) =
 (if decide (j < (k : Int)) = true then
 (if 0 ≤ i ∧ i < (n : Int) then
 (if isBoolV Kp[0 + i.toNat * 1]? = true then
 (if (!boolV Kp[0 + i.toNat * 1]?) = true then
 (if 0 ≤ j ∧ j < (l : Int) then
 (if isIntV i64 L[0 + j.toNat * 1]? = true then
 (if decide (intV L[0 + j.toNat * 1]? > 0) = true then
 (if 0 ≤ j ∧ j < (l : Int) then
 (if isIntV i64 L[0 + j.toNat * 1]? = true then
 (if 0 ≤ j ∧ j < (l : Int) then
 (if 0 + j.toNat * 1 + [int i64 (i64.wrap (intV L[0 + j.toNat * 1]? - 1))].length ≤ L.length ∧ [int i64 (i64.wrap (intV L[0 + j.toNat * 1]? - 1))].all AV.isCell = true then
 (if 0 ≤ j ∧ j < (k : Int) then
 (if 0 + j.toNat * 19 + 0 + 18 ≤ C.length then
 (if 0 ≤ i ∧ i < (n : Int) then
 (if (List.take 18 (List.drop (0 + j.toNat * 19 + 0) C)).length = 18 then
 (if 0 + i.toNat * 18 + (List.take 18 (List.drop (0 + j.toNat * 19 + 0) C)).length ≤ X.length ∧ (List.take 18 (List.drop (0 + j.toNat * 19 + 0) C)).all AV.isCell = true then
 (if 0 ≤ i ∧ i < (n : Int) then
 (if 0 + i.toNat * 1 + [AV.bool true].length ≤ Kp.length ∧ [AV.bool true].all AV.isCell = true then
 some ((AEx.norm, [AV.sl (some (1, 0)) k 0 false, int i64 (n : Int), AV.sl (some (2, 0)) l 0 false, AV.sl (some (3, 0)) n 0 false, AV.sl (some (4, 0)) n 0 false, int i64 i, int i64 (i64.wrap (j + 1))], (hRf3a0 O C L X Kp k n l i j)))
 else none) else none) else none) else none) else none) else none) else none) else none) else none) else none) else none) else none) else none) else none) else none) else none) else none) else none) := by
  kernel_rfl

noncomputable def hRf3b0 (O C L X Kp : List AV) (k n l : Nat) (i j : Int) : AHeap := [ABlk.cells O 18 Md.far none, ABlk.cells C 19 Md.far none, ABlk.cells L 1 Md.own none, ABlk.cells X 18 Md.own none, ABlk.cells Kp 1 Md.own none]
theorem nfRf3b (O C L X Kp : List AV) (k n l : Nat) (i j : Int) :
 qround Try.prog tRfL 100 4 [(99, .bool true), (106, .bool false)] noT RF3 mRf3 (vRf3 k n l i j) (hRf O C L X Kp) =
 (if decide (j < (k : Int)) = true then
 (if 0 ≤ i ∧ i < (n : Int) then
 (if isBoolV Kp[0 + i.toNat * 1]? = true then
 (if (!boolV Kp[0 + i.toNat * 1]?) = true then
 (if 0 ≤ j ∧ j < (l : Int) then
 (if isIntV i64 L[0 + j.toNat * 1]? = true then
 (if decide (intV L[0 + j.toNat * 1]? > 0) = false then
 some ((AEx.norm, [AV.sl (some (1, 0)) k 0 false, int i64 (n : Int), AV.sl (some (2, 0)) l 0 false, AV.sl (some (3, 0)) n 0 false, AV.sl (some (4, 0)) n 0 false, int i64 i, int i64 (i64.wrap (j + 1))], (hRf3b0 O C L X Kp k n l i j)))
 else none) else none) else none) else none) else none) else none) else none) := by
  kernel_rfl

noncomputable def hRf3s0 (O C L X Kp : List AV) (k n l : Nat) (i j : Int) : AHeap := [ABlk.cells O 18 Md.far none, ABlk.cells C 19 Md.far none, ABlk.cells L 1 Md.own none, ABlk.cells X 18 Md.own none, ABlk.cells Kp 1 Md.own none]
theorem nfRf3s (O C L X Kp : List AV) (k n l : Nat) (i j : Int) :
 qround Try.prog tRfL 100 4 [(99, .bool false)] noT RF3 mRf3 (vRf3 k n l i j) (hRf O C L X Kp) =
 (if decide (j < (k : Int)) = true then
 (if 0 ≤ i ∧ i < (n : Int) then
 (if isBoolV Kp[0 + i.toNat * 1]? = true then
 (if (!boolV Kp[0 + i.toNat * 1]?) = false then
 some ((AEx.exit 4, [AV.sl (some (1, 0)) k 0 false, int i64 (n : Int), AV.sl (some (2, 0)) l 0 false, AV.sl (some (3, 0)) n 0 false, AV.sl (some (4, 0)) n 0 false, int i64 i, int i64 j], (hRf3s0 O C L X Kp k n l i j)))
 else none) else none) else none)
 else some ((AEx.exit 4, [AV.sl (some (1, 0)) k 0 false, int i64 (n : Int), AV.sl (some (2, 0)) l 0 false, AV.sl (some (3, 0)) n 0 false, AV.sl (some (4, 0)) n 0 false, int i64 i, int i64 j], (hRf3s0 O C L X Kp k n l i j)))) := by
  kernel_rfl

noncomputable def hRfe0 (O C : List AV) (o k : Nat) (n : Int) : AHeap := [ABlk.cells O 18 Md.far none, ABlk.cells C 19 Md.far none]
theorem nfRfe {R : Type} (O C : List AV) (o k : Nat) (n : Int) (K : AV → AHeap → Option R) :
 qrun Try.prog tRfL 100 4 [(36, .bool true)] [] 11 [.sl (some (0, 0)) o 0 false, .sl (some (1, 0)) k 0 false, .int .i64 n] [.cells O 18 .far none, .cells C 19 .far none] K =
 (if decide (n < 1) = true then
 K (AV.tup [AV.sl none 0 0 true, int i64 1]) ((hRfe0 O C o k n))
 else (if decide (n > 64) = true then
 K (AV.tup [AV.sl none 0 0 true, int i64 1]) ((hRfe0 O C o k n))
 else (if cdec (rowP (hRfe0 O C o k n) (AV.sl (some (1, 0)) k 0 false) (plOf (rowOf (hRfe0 O C o k n) (AV.sl (some (1, 0)) k 0 false))) ∧ nOf (AV.sl (some (1, 0)) k 0 false) ≤ 1000000) = true then
 (if (!opq (decide (chkP (plOf (rowOf (hRfe0 O C o k n) (AV.sl (some (1, 0)) k 0 false))) = 0))) = true then
 K (AV.tup [AV.sl none 0 0 true, int i64 1]) ((hRfe0 O C o k n))
 else (if ((o : Int) != 0) = true then
 (if ((o : Int) != n) = true then
 K (AV.tup [AV.sl none 0 0 true, int i64 1]) ((hRfe0 O C o k n))
 else none) else none))
 else none))) := by
  kernel_rfl

noncomputable def hRfn0 (O C : List AV) (o k : Nat) (n : Int) : AHeap := [ABlk.cells O 18 Md.far none, ABlk.cells C 19 Md.far none]
theorem nfRfn {R : Type} (O C : List AV) (o k : Nat) (n : Int) (K : AV → AHeap → Option R) :
 qrun Try.prog tRfL 100 4 [(36, .bool false), (39, .bool true)] [] 11 [.sl (some (0, 0)) o 0 false, .sl (some (1, 0)) k 0 false, .int .i64 n] [.cells O 18 .far none, .cells C 19 .far none] K =
 (if decide (n < 1) = true then
 none
 else (if decide (n > 64) = true then
 none
 else (if cdec (rowP (hRfn0 O C o k n) (AV.sl (some (1, 0)) k 0 false) (plOf (rowOf (hRfn0 O C o k n) (AV.sl (some (1, 0)) k 0 false))) ∧ nOf (AV.sl (some (1, 0)) k 0 false) ≤ 1000000) = true then
 (if (!opq (decide (chkP (plOf (rowOf (hRfn0 O C o k n) (AV.sl (some (1, 0)) k 0 false))) = 0))) = true then
 none
 else (if ((o : Int) != 0) = true then
 (if ((o : Int) != n) = false then
 (if ((k : Int) == 0) = true then
 K (AV.tup [AV.sl none 0 0 true, int i64 0]) ((hRfn0 O C o k n))
 else none) else none)
 else (if ((k : Int) == 0) = true then
 K (AV.tup [AV.sl none 0 0 true, int i64 0]) ((hRfn0 O C o k n))
 else none)))
 else none))) := by
  kernel_rfl

noncomputable def hRfm0 (q1 q2 : Prop) (O C : List AV) (o k l n : Nat) (S : List Int) (L X Kp L2 X2 K2 : List AV) : AHeap := [ABlk.cells O 18 Md.far none, ABlk.cells C 19 Md.far none]
noncomputable def hRfm1 (q1 q2 : Prop) (O C : List AV) (o k l n : Nat) (S : List Int) (L X Kp L2 X2 K2 : List AV) : AHeap := [cells (intL S) 1 Md.own none]
noncomputable def hRfm2 (q1 q2 : Prop) (O C : List AV) (o k l n : Nat) (S : List Int) (L X Kp L2 X2 K2 : List AV) : AHeap := [ABlk.cells O 18 Md.far none, ABlk.cells C 19 Md.far none, cells (intL S) 1 Md.own none, cells (zrep ((n : Int)).toNat [AV.bool false, int u8 0, int u8 0, int u8 0, int u8 0, int u8 0, int u8 0, int u8 0, int u8 0, int u8 0, int u8 0, int u8 0, int u8 0, int u8 0, int u8 0, int u8 0, int u8 0, int u16 0]) 18 Md.own none, cells (zrep ((n : Int)).toNat [AV.bool false]) 1 Md.own none]
noncomputable def hRfm3 (q1 q2 : Prop) (O C : List AV) (o k l n : Nat) (S : List Int) (L X Kp L2 X2 K2 : List AV) : AHeap := [ABlk.cells O 18 Md.far none, ABlk.cells C 19 Md.far none, cells (intL S) 1 Md.own none, cells (zrep n dipZ) 18 Md.own none, cells (zrep n [AV.bool false]) 1 Md.own none]
noncomputable def hRfm4 (q1 q2 : Prop) (O C : List AV) (o k l n : Nat) (S : List Int) (L X Kp L2 X2 K2 : List AV) : AHeap := [ABlk.cells O 18 Md.far none, ABlk.cells C 19 Md.far none, ABlk.cells L 1 Md.own none, ABlk.cells X 18 Md.own none, ABlk.cells Kp 1 Md.own none]
noncomputable def hRfm5 (q1 q2 : Prop) (O C : List AV) (o k l n : Nat) (S : List Int) (L X Kp L2 X2 K2 : List AV) : AHeap := [ABlk.cells O 18 Md.far none, ABlk.cells C 19 Md.far none, ABlk.cells L2 1 Md.own none, ABlk.cells X2 18 Md.own none, ABlk.cells K2 1 Md.own none]
theorem nfRfm {R : Type} (q1 q2 : Prop) (O C : List AV) (o k l n : Nat) (S : List Int) (L X Kp L2 X2 K2 : List AV) (K : AV → AHeap → Option R) :
 qrun Try.prog (tRf l S) 100 4 [(36, .bool false), (39, .bool false)] [(9, fixC q1 mRf1 (vRf1 o k n l 0) (hRf O C (intL S) (zrep n dipZ) (zrep n [.bool false])) (.exit 0) (vRf1 o k n l o) (hRf O C L X Kp)), (16, fixC q2 mRf2 (vRf2 k n l 0) (hRf O C L X Kp) (.exit 2) (vRf2 k n l n) (hRf O C L2 X2 K2))] 11 [.sl (some (0, 0)) o 0 false, .sl (some (1, 0)) k 0 false, .int .i64 n] [.cells O 18 .far none, .cells C 19 .far none] K =
 (if decide ((n : Int) < 1) = true then
 none
 else (if decide ((n : Int) > 64) = true then
 none
 else (if cdec (rowP (hRfm0 q1 q2 O C o k l n S L X Kp L2 X2 K2) (AV.sl (some (1, 0)) k 0 false) (plOf (rowOf (hRfm0 q1 q2 O C o k l n S L X Kp L2 X2 K2) (AV.sl (some (1, 0)) k 0 false))) ∧ nOf (AV.sl (some (1, 0)) k 0 false) ≤ 1000000) = true then
 (if (!opq (decide (chkP (plOf (rowOf (hRfm0 q1 q2 O C o k l n S L X Kp L2 X2 K2) (AV.sl (some (1, 0)) k 0 false))) = 0))) = true then
 none
 else (if ((o : Int) != 0) = true then
 (if ((o : Int) != (n : Int)) = false then
 (if ((k : Int) == 0) = false then
 (if cdec (RhR [AV.sl (some (1, 0)) k 0 false, int i64 (n : Int)] (hRfm0 q1 q2 O C o k l n S L X Kp L2 X2 K2) (AV.sl (some (2, 0)) l 0 false) (hRfm1 q1 q2 O C o k l n S L X Kp L2 X2 K2)) = true then
 (if 18 = 18 ∧ 0 < 18 ∧ 0 ≤ (n : Int) ∧ (n : Int) ≤ (n : Int) ∧ (n : Int) ≤ 70368744177664 ∧ 20 * (n : Int) ≤ 281474976710656 then
 (if 1 = 1 ∧ 0 < 1 ∧ 0 ≤ (n : Int) ∧ (n : Int) ≤ (n : Int) ∧ (n : Int) ≤ 70368744177664 ∧ 1 * (n : Int) ≤ 281474976710656 then
 (if cdec
 (q1 ∧
 [AV.sl (some (0, 0)) o 0 false, AV.sl (some (1, 0)) k 0 false, int i64 (n : Int), AV.sl (some (2, 0)) l 0 false,
 AV.sl (some (3, 0)) ((n : Int)).toNat
 (match true with
 | true => 0
 | false => ((n : Int)).toNat)
 false,
 AV.sl (some (4, 0)) ((n : Int)).toNat
 (match true with
 | true => 0
 | false => ((n : Int)).toNat)
 false,
 int i64 0] =
 [AV.sl (some (0, 0)) o 0 false, AV.sl (some (1, 0)) k 0 false, int i64 (n : Int), AV.sl (some (2, 0)) l 0 false, AV.sl (some (3, 0)) n 0 false, AV.sl (some (4, 0)) n 0 false, int i64 0] ∧
 (hRfm2 q1 q2 O C o k l n S L X Kp L2 X2 K2) = (hRfm3 q1 q2 O C o k l n S L X Kp L2 X2 K2)) =
 true then
 (if cdec (q2 ∧ [AV.sl (some (1, 0)) k 0 false, int i64 (n : Int), AV.sl (some (2, 0)) l 0 false, AV.sl (some (3, 0)) n 0 false, AV.sl (some (4, 0)) n 0 false, int i64 0] = [AV.sl (some (1, 0)) k 0 false, int i64 (n : Int), AV.sl (some (2, 0)) l 0 false, AV.sl (some (3, 0)) n 0 false, AV.sl (some (4, 0)) n 0 false, int i64 0] ∧ (hRfm4 q1 q2 O C o k l n S L X Kp L2 X2 K2) = (hRfm4 q1 q2 O C o k l n S L X Kp L2 X2 K2)) = true then
 K (AV.tup [AV.sl (some (3, 0)) n 0 false, int i64 0]) ((hRfm5 q1 q2 O C o k l n S L X Kp L2 X2 K2))
 else none) else none) else none) else none) else none) else none) else none)
 else (if ((k : Int) == 0) = false then
 (if cdec (RhR [AV.sl (some (1, 0)) k 0 false, int i64 (n : Int)] (hRfm0 q1 q2 O C o k l n S L X Kp L2 X2 K2) (AV.sl (some (2, 0)) l 0 false) (hRfm1 q1 q2 O C o k l n S L X Kp L2 X2 K2)) = true then
 (if 18 = 18 ∧ 0 < 18 ∧ 0 ≤ (n : Int) ∧ (n : Int) ≤ (n : Int) ∧ (n : Int) ≤ 70368744177664 ∧ 20 * (n : Int) ≤ 281474976710656 then
 (if 1 = 1 ∧ 0 < 1 ∧ 0 ≤ (n : Int) ∧ (n : Int) ≤ (n : Int) ∧ (n : Int) ≤ 70368744177664 ∧ 1 * (n : Int) ≤ 281474976710656 then
 (if cdec
 (q1 ∧
 [AV.sl (some (0, 0)) o 0 false, AV.sl (some (1, 0)) k 0 false, int i64 (n : Int), AV.sl (some (2, 0)) l 0 false,
 AV.sl (some (3, 0)) ((n : Int)).toNat
 (match true with
 | true => 0
 | false => ((n : Int)).toNat)
 false,
 AV.sl (some (4, 0)) ((n : Int)).toNat
 (match true with
 | true => 0
 | false => ((n : Int)).toNat)
 false,
 int i64 0] =
 [AV.sl (some (0, 0)) o 0 false, AV.sl (some (1, 0)) k 0 false, int i64 (n : Int), AV.sl (some (2, 0)) l 0 false, AV.sl (some (3, 0)) n 0 false, AV.sl (some (4, 0)) n 0 false, int i64 0] ∧
 (hRfm2 q1 q2 O C o k l n S L X Kp L2 X2 K2) = (hRfm3 q1 q2 O C o k l n S L X Kp L2 X2 K2)) =
 true then
 (if cdec (q2 ∧ [AV.sl (some (1, 0)) k 0 false, int i64 (n : Int), AV.sl (some (2, 0)) l 0 false, AV.sl (some (3, 0)) n 0 false, AV.sl (some (4, 0)) n 0 false, int i64 0] = [AV.sl (some (1, 0)) k 0 false, int i64 (n : Int), AV.sl (some (2, 0)) l 0 false, AV.sl (some (3, 0)) n 0 false, AV.sl (some (4, 0)) n 0 false, int i64 0] ∧ (hRfm4 q1 q2 O C o k l n S L X Kp L2 X2 K2) = (hRfm4 q1 q2 O C o k l n S L X Kp L2 X2 K2)) = true then
 K (AV.tup [AV.sl (some (3, 0)) n 0 false, int i64 0]) ((hRfm5 q1 q2 O C o k l n S L X Kp L2 X2 K2))
 else none) else none) else none) else none) else none) else none)))
 else none))) := by
  kernel_rfl


end Go.Proofs.Ytlppbeoiphglcaa.L
