/- FifoActs' rows. -/
import Derived.Test.YtdildbadafdbgaaIxsi
import Derived.Test.YtdildbadafdbgaaAllK
import Derived.Test.YtdildbadafdbgaaAddrB
import Derived.Test.YtdildbadafdbgaaAwake20
set_option autoImplicit false
set_option maxRecDepth 100000
set_option linter.unusedVariables false
namespace Go.Proofs.Ytdildbadafdbgaa.L
open Go Go.Abs
open Go.IntKind
open Go.Abs.AV (int)
open Go.Abs.ABlk (cells)

def mFA0 : List Bool := List.replicate 2 true ++ List.replicate 3 false ++ List.replicate 1 true ++ List.replicate 1 false ++ List.replicate 3 true ++ List.replicate 278 false
def mFA1 : List Bool := List.replicate 2 true ++ List.replicate 3 false ++ List.replicate 1 true ++ List.replicate 1 false ++ List.replicate 4 true ++ List.replicate 4 false ++ List.replicate 2 true ++ List.replicate 271 false
def mFA2 : List Bool := List.replicate 2 true ++ List.replicate 3 false ++ List.replicate 1 true ++ List.replicate 1 false ++ List.replicate 3 true ++ List.replicate 10 false ++ List.replicate 3 true ++ List.replicate 265 false
noncomputable abbrev FA0 := loopIn (bodyOf Try.prog 5) 0
noncomputable abbrev FA1 := loopIn FA0 0
noncomputable abbrev FA2 := loopIn FA0 1
def farI (l : List Int) : ABlk := .cells (l.map (AV.int .i64)) 1 .far none
def wsl (w ow n : Nat) : AV := .sl (some (w, ow)) n 0 false
def vFA0 (m : Int) (l : List Int) (w ow n : Nat) (x i : Int) : List AV := [.int .i64 m, .sl (some (0, 0)) l.length 0 false, .ptr (some (1, 0)), wsl w ow n, .int .i64 x, .int .i64 i]
def hFAq (l : List Int) (m x : Int) (qc o n : Nat) (C D : List AV) : AHeap := [farI l, .cells [.int .i64 m, .int .i64 x, .sl (some (qc, o)) n 0 false] 3 .own none, .cells C 2 .own none, .cells D 3 .own none]
def itmOf : List AV → Nat → List AV
  | a :: b :: r, c + 1 => a :: b :: .int .i64 0 :: itmOf r c
  | _, _ => []
def sOf (h : AHeap) (q : Nat) : AV := match h[q]? with
  | some (.cells [_, _, s] _ _ _) => s
  | _ => .any
noncomputable def eAllT : GEnt := fun args h => match args with
  | [.ptr (some (q, o)), .int .i64 m] => some (cdec (AllR args h (.sl (some (h.length, 0)) (opq (cntA (nOf (sOf h q)) m)) 0 false) [.cells (opq (itmOf (rowOf h (sOf h q)) (cntA (nOf (sOf h q)) m))) 3 .own none]), .sl (some (h.length, 0)) (opq (cntA (nOf (sOf h q)) m)) 0 false, h ++ [.cells (opq (itmOf (rowOf h (sOf h q)) (cntA (nOf (sOf h q)) m))) 3 .own none])
  | _ => none
theorem sAllT : SoundE Try.prog 25 (entF eAllT) := by
  refine canonR_sound fun args h v h' hg => ?_
  unfold eAllT at hg
  split at hg
  · simp only [Option.some.injEq, Prod.mk.injEq] at hg
    obtain ⟨hc, rfl, rfl⟩ := hg
    rw [cdec_true] at hc
    obtain ⟨args1, h1, c, v1, h1', hr, ks, hd, hk⟩ := kAll _ _ _ _ hc
    exact ⟨args1, h1, c, v1, h1', hr, ks, _, rfl, hd, hk⟩
  · simp at hg
noncomputable def tFA : Tbl := [(39, entF (eRelI RIxsi)), (25, entF eAllT), (10, entF eRound), (7, entF eAwake)]
theorem tFAOk : ∀ f E, tFA.find f = some E → SoundE Try.prog f E := find_cons sIIxsi (find_cons sAllT (find_cons sRound (find_cons sAwake (find_nil _))))
def keysW : List AV → List (List UInt8)
  | .str k :: _ :: _ :: r => k :: keysW r
  | _ => []
def hadF (vs : List AV) (h : AHeap) : Int :=
  match vs with
  | [_, _, _, w, _, _, .str k, _, _] => if (keysW (rowOf h w)).findIdx (fun x => decide (x = k)) < (keysW (rowOf h w)).length then ((keysW (rowOf h w)).findIdx (fun x => decide (x = k)) : Nat) else -1
  | _ => 0
noncomputable abbrev bFA1 := roundG Try.prog (deepT Try.prog tFA 100 5) (lsT noT) FA1 mFA1
noncomputable abbrev bFA2 := roundG Try.prog (deepT Try.prog tFA 100 5) (lsT noT) FA2 mFA2
noncomputable def lsFA : LoopTT := mixT [(22, fixS bFA1 mFA1 (.exit 2) fun vs h => ((vs.set 7 (.int .i64 (opq (hadF vs h)))).set 8 (.int .i64 (nOf (vs.getD 3 .any))), h)), (44, fixS bFA2 mFA2 (.exit 5) fun vs h => (vs.set 8 (.int .i64 (nOf (vs.getD 3 .any))), h))] noT
theorem lsFAOk : LoopsOk Try.prog (lsT lsFA) FA0 := by
  unfold lsFA
  rw [mixT_ls]
  have hl : loopsOf FA0 = [FA1, FA2] := by kernel_rfl
  intro b hb s hs
  rw [hl] at hb
  simp only [List.mem_cons, List.not_mem_nil, or_false] at hb
  unfold mixLS at hs
  rcases hb with rfl | rfl
  · rw [show firstReg FA1 = 22 by kernel_rfl] at hs
    simp only [lsOf, if_true] at hs
    cases hs
    exact fixS_sound tFAOk (noLoops (by kernel_rfl))
  · rw [show firstReg FA2 = 44 by kernel_rfl] at hs
    simp only [lsOf, if_true] at hs
    cases hs
    exact fixS_sound tFAOk (noLoops (by kernel_rfl))

noncomputable def hFAZ0 (l : List Int) (m x i : Int) (o ow n : Nat) (C D : List AV) : AHeap := [cells (List.map (int i64) l) 1 Md.far none, cells [int i64 m, int i64 x, AV.sl (some (2, o)) n 0 false] 3 Md.own none, ABlk.cells C 2 Md.own none, ABlk.cells D 3 Md.own none, cells [int u8 (u8.wrap (i64.wrap (97 + intV (List.map (int i64) l)[0 + i.toNat * 1]? % 9)))] 1 Md.own none]
noncomputable def hFAZ1 (l : List Int) (m x i : Int) (o ow n : Nat) (C D : List AV) : AHeap := [cells (opq (itmOf (rowOf (hFAZ0 l m x i o ow n C D) (AV.sl (some (2, o)) n 0 false)) (cntA (nOf (AV.sl (some (2, o)) n 0 false)) (-1)))) 3 Md.own none]
noncomputable def hFAZ2 (l : List Int) (m x i : Int) (o ow n : Nat) (C D : List AV) : AHeap := [cells (List.map (int i64) l) 1 Md.far none, cells [int i64 m, int i64 x, AV.sl (some (2, o)) n 0 false] 3 Md.own none, ABlk.cells C 2 Md.own none, ABlk.cells D 3 Md.own none, cells [int u8 (u8.wrap (i64.wrap (97 + intV (List.map (int i64) l)[0 + i.toNat * 1]? % 9)))] 1 Md.own none, cells (opq (itmOf (rowOf (hFAZ0 l m x i o ow n C D) (AV.sl (some (2, o)) n 0 false)) (cntA (nOf (AV.sl (some (2, o)) n 0 false)) (-1)))) 3 Md.own none]
noncomputable def hFAZ3 (l : List Int) (m x i : Int) (o ow n : Nat) (C D : List AV) : AHeap := [cells (opq (itmOf (rowOf (hFAZ2 l m x i o ow n C D) (AV.sl (some (2, o)) n 0 false)) (cntA (nOf (AV.sl (some (2, o)) n 0 false)) 1))) 3 Md.own none]
noncomputable def hFAZ4 (l : List Int) (m x i : Int) (o ow n : Nat) (C D : List AV) : AHeap := [cells (List.map (int i64) l) 1 Md.far none, cells [int i64 m, int i64 x, AV.sl (some (2, o)) n 0 false] 3 Md.own none, ABlk.cells C 2 Md.own none, ABlk.cells D 3 Md.own none, cells [int u8 (u8.wrap (i64.wrap (97 + intV (List.map (int i64) l)[0 + i.toNat * 1]? % 9)))] 1 Md.own none, cells (opq (itmOf (rowOf (hFAZ0 l m x i o ow n C D) (AV.sl (some (2, o)) n 0 false)) (cntA (nOf (AV.sl (some (2, o)) n 0 false)) (-1)))) 3 Md.own none, cells (opq (itmOf (rowOf (hFAZ2 l m x i o ow n C D) (AV.sl (some (2, o)) n 0 false)) (cntA (nOf (AV.sl (some (2, o)) n 0 false)) 1))) 3 Md.own none]
theorem nfFAZ (l : List Int) (m x i : Int) (o ow n : Nat) (C D : List AV) :
 qround Try.prog tFA 100 5 [(60, .bool true), (77, .bool true), (118, .bool false), (119, .bool false), (184, .bool false), (224, .bool false)] lsFA FA0 mFA0 (vFA0 m l 3 ow n x i) (hFAq l m x 2 o n C D) =
 (if decide (i < (l.length : Int)) = true then
 (if 0 ≤ i ∧ i < (l.length : Int) then
 (if isIntV i64 (List.map (int i64) l)[0 + i.toNat * 1]? = true then
 (if 0 ≤ i ∧ i < (l.length : Int) then
 (if isIntV i64 (List.map (int i64) l)[0 + i.toNat * 1]? = true then
 (if (intV (List.map (int i64) l)[0 + i.toNat * 1]? % 9 == 8) = true then
 (if ((n : Int) == 0) = true then
 (if (!false == decide ((n : Int) > 0)) = true then
 none
 else (if decide ((n : Int) > 0) = false then
 (if cdec (AllR [AV.ptr (some (1, 0)), int i64 (-1)] (hFAZ0 l m x i o ow n C D) (AV.sl (some (5, 0)) (opq (cntA (nOf (AV.sl (some (2, o)) n 0 false)) (-1))) 0 false) (hFAZ1 l m x i o ow n C D)) = true then
 (if cdec (AllR [AV.ptr (some (1, 0)), int i64 1] (hFAZ2 l m x i o ow n C D) (AV.sl (some (6, 0)) (opq (cntA (nOf (AV.sl (some (2, o)) n 0 false)) 1)) 0 false) (hFAZ3 l m x i o ow n C D)) = true then
 (if ((n : Int) != (n : Int)) = true then
 none
 else (if (intV (some (int i64 x)) != x) = true then
 none
 else (if (i64.wrap (intV (some (int i64 x)) - (n : Int)) != x) = true then
 none
 else (if ((((opq (cntA (nOf (AV.sl (some (2, o)) n 0 false)) (-1))) : Nat) : Int) != (n : Int)) = true then
 none
 else (if ((((opq (cntA (nOf (AV.sl (some (2, o)) n 0 false)) 1)) : Nat) : Int) != if false = true then if (n : Int) > 1 then (n : Int) else 1 else if (n : Int) < 1 then (n : Int) else 1) = false then
 (if cdec (LSays bFA2 7 [int i64 m, AV.sl (some (0, 0)) l.length 0 false, AV.ptr (some (1, 0)), AV.sl (some (3, ow)) n 0 false, int i64 x, int i64 i, AV.sl (some (5, 0)) (opq (cntA (nOf (AV.sl (some (2, o)) n 0 false)) (-1))) 0 false, AV.sl (some (6, 0)) (opq (cntA (nOf (AV.sl (some (2, o)) n 0 false)) 1)) 0 false, int i64 0] (hFAZ4 l m x i o ow n C D) (AEx.exit 5) [int i64 m, AV.sl (some (0, 0)) l.length 0 false, AV.ptr (some (1, 0)), AV.sl (some (3, ow)) n 0 false, int i64 x, int i64 i, AV.sl (some (5, 0)) (opq (cntA (nOf (AV.sl (some (2, o)) n 0 false)) (-1))) 0 false, AV.sl (some (6, 0)) (opq (cntA (nOf (AV.sl (some (2, o)) n 0 false)) 1)) 0 false, int i64 (((nOf (AV.sl (some (3, ow)) n 0 false)) : Nat) : Int)] (hFAZ4 l m x i o ow n C D)) = true then
 some ((AEx.norm, [int i64 m, AV.sl (some (0, 0)) l.length 0 false, AV.ptr (some (1, 0)), AV.sl (some (3, ow)) n 0 false, int i64 x, int i64 (i64.wrap (i + 1))], (hFAZ4 l m x i o ow n C D)))
 else none) else none)))))
 else none) else none) else none))
 else (if Int.ofNat 0 ≤ Int.ofNat 0 ∧ 0 < (n : Int) then
 (if o + 0 + 2 ≤ C.length then
 (if (List.take 2 (List.drop (o + 0) C)).length = 2 then
 (if 0 + (List.take 2 (List.drop (o + 0) C)).length ≤ 2 ∧ (List.take 2 (List.drop (o + 0) C)).all AV.isCell = true then
 (if Int.ofNat 0 ≤ Int.ofNat 1 ∧ 1 ≤ (n : Int) then
 (if isStrV (putCells [AV.str [], int i64 0] 0 (List.take 2 (List.drop (o + 0) C)))[0]? = true then
 (if isIntV i64 (putCells [AV.str [], int i64 0] 0 (List.take 2 (List.drop (o + 0) C)))[1]? = true then
 (if (!true == decide ((n : Int) > 0)) = true then
 none
 else (if Int.ofNat 0 ≤ Int.ofNat 0 ∧ 0 < (n : Int) then
 (if ow + 0 + 3 ≤ D.length then
 (if isStrV (List.take 3 (List.drop (ow + 0) D))[0]? = true then
 (if isIntV i64 (List.take 3 (List.drop (ow + 0) D))[1]? = true then
 (if isIntV i64 (List.take 3 (List.drop (ow + 0) D))[2]? = true then
 (if (!(decide (strV (some (AV.str (strV (putCells [AV.str [], int i64 0] 0 (List.take 2 (List.drop (o + 0) C)))[0]?))) = strV (List.take 3 (List.drop (ow + 0) D))[0]?) && (intV (some (int i64 (intV (putCells [AV.str [], int i64 0] 0 (List.take 2 (List.drop (o + 0) C)))[1]?))) == intV (List.take 3 (List.drop (ow + 0) D))[1]? && (intV (some (int i64 (i64.wrap (intV (some (int i64 x)) - (n : Int))))) == intV (List.take 3 (List.drop (ow + 0) D))[2]? && true)))) = true then
 none
 else none) else none) else none) else none) else none) else none))
 else none) else none) else none) else none) else none) else none) else none))
 else none) else none) else none) else none) else none) else none) := by
  kernel_rfl

noncomputable def hFAP0 (l : List Int) (m x i : Int) (o ow n : Nat) (C D : List AV) : AHeap := [cells (List.map (int i64) l) 1 Md.far none, cells [int i64 m, int i64 x, AV.sl (some (2, o + 2)) (n - 1) (roomOf n 0 1 true n false) false] 3 Md.own none, ABlk.cells C 2 Md.own none, ABlk.cells D 3 Md.own none, cells [int u8 (u8.wrap (i64.wrap (97 + intV (List.map (int i64) l)[0 + i.toNat * 1]? % 9)))] 1 Md.own none, cells (putCells [AV.str [], int i64 0] 0 (List.take 2 (List.drop (o + 0) C))) 2 Md.own none]
noncomputable def hFAP1 (l : List Int) (m x i : Int) (o ow n : Nat) (C D : List AV) : AHeap := [cells (opq (itmOf (rowOf (hFAP0 l m x i o ow n C D) (AV.sl (some (2, o + 2)) (n - 1) (roomOf n 0 1 true n false) false)) (cntA (nOf (AV.sl (some (2, o + 2)) (n - 1) (roomOf n 0 1 true n false) false)) (-1)))) 3 Md.own none]
noncomputable def hFAP2 (l : List Int) (m x i : Int) (o ow n : Nat) (C D : List AV) : AHeap := [cells (List.map (int i64) l) 1 Md.far none, cells [int i64 m, int i64 x, AV.sl (some (2, o + 2)) (n - 1) (roomOf n 0 1 true n false) false] 3 Md.own none, ABlk.cells C 2 Md.own none, ABlk.cells D 3 Md.own none, cells [int u8 (u8.wrap (i64.wrap (97 + intV (List.map (int i64) l)[0 + i.toNat * 1]? % 9)))] 1 Md.own none, cells (putCells [AV.str [], int i64 0] 0 (List.take 2 (List.drop (o + 0) C))) 2 Md.own none, cells (opq (itmOf (rowOf (hFAP0 l m x i o ow n C D) (AV.sl (some (2, o + 2)) (n - 1) (roomOf n 0 1 true n false) false)) (cntA (nOf (AV.sl (some (2, o + 2)) (n - 1) (roomOf n 0 1 true n false) false)) (-1)))) 3 Md.own none]
noncomputable def hFAP3 (l : List Int) (m x i : Int) (o ow n : Nat) (C D : List AV) : AHeap := [cells (opq (itmOf (rowOf (hFAP2 l m x i o ow n C D) (AV.sl (some (2, o + 2)) (n - 1) (roomOf n 0 1 true n false) false)) (cntA (nOf (AV.sl (some (2, o + 2)) (n - 1) (roomOf n 0 1 true n false) false)) 1))) 3 Md.own none]
noncomputable def hFAP4 (l : List Int) (m x i : Int) (o ow n : Nat) (C D : List AV) : AHeap := [cells (List.map (int i64) l) 1 Md.far none, cells [int i64 m, int i64 x, AV.sl (some (2, o + 2)) (n - 1) (roomOf n 0 1 true n false) false] 3 Md.own none, ABlk.cells C 2 Md.own none, ABlk.cells D 3 Md.own none, cells [int u8 (u8.wrap (i64.wrap (97 + intV (List.map (int i64) l)[0 + i.toNat * 1]? % 9)))] 1 Md.own none, cells (putCells [AV.str [], int i64 0] 0 (List.take 2 (List.drop (o + 0) C))) 2 Md.own none, cells (opq (itmOf (rowOf (hFAP0 l m x i o ow n C D) (AV.sl (some (2, o + 2)) (n - 1) (roomOf n 0 1 true n false) false)) (cntA (nOf (AV.sl (some (2, o + 2)) (n - 1) (roomOf n 0 1 true n false) false)) (-1)))) 3 Md.own none, cells (opq (itmOf (rowOf (hFAP2 l m x i o ow n C D) (AV.sl (some (2, o + 2)) (n - 1) (roomOf n 0 1 true n false) false)) (cntA (nOf (AV.sl (some (2, o + 2)) (n - 1) (roomOf n 0 1 true n false) false)) 1))) 3 Md.own none]
theorem nfFAP (l : List Int) (m x i : Int) (o ow n : Nat) (C D : List AV) :
 qround Try.prog tFA 100 5 [(60, .bool true), (77, .bool true), (118, .bool false), (119, .bool true), (184, .bool true), (224, .bool false)] lsFA FA0 mFA0 (vFA0 m l 3 ow n x i) (hFAq l m x 2 o n C D) =
 (if decide (i < (l.length : Int)) = true then
 (if 0 ≤ i ∧ i < (l.length : Int) then
 (if isIntV i64 (List.map (int i64) l)[0 + i.toNat * 1]? = true then
 (if 0 ≤ i ∧ i < (l.length : Int) then
 (if isIntV i64 (List.map (int i64) l)[0 + i.toNat * 1]? = true then
 (if (intV (List.map (int i64) l)[0 + i.toNat * 1]? % 9 == 8) = true then
 (if ((n : Int) == 0) = true then
 (if (!false == decide ((n : Int) > 0)) = true then
 none
 else none)
 else (if Int.ofNat 0 ≤ Int.ofNat 0 ∧ 0 < (n : Int) then
 (if o + 0 + 2 ≤ C.length then
 (if (List.take 2 (List.drop (o + 0) C)).length = 2 then
 (if 0 + (List.take 2 (List.drop (o + 0) C)).length ≤ 2 ∧ (List.take 2 (List.drop (o + 0) C)).all AV.isCell = true then
 (if Int.ofNat 0 ≤ Int.ofNat 1 ∧ 1 ≤ (n : Int) then
 (if isStrV (putCells [AV.str [], int i64 0] 0 (List.take 2 (List.drop (o + 0) C)))[0]? = true then
 (if isIntV i64 (putCells [AV.str [], int i64 0] 0 (List.take 2 (List.drop (o + 0) C)))[1]? = true then
 (if (!true == decide ((n : Int) > 0)) = true then
 none
 else (if Int.ofNat 0 ≤ Int.ofNat 0 ∧ 0 < (n : Int) then
 (if ow + 0 + 3 ≤ D.length then
 (if isStrV (List.take 3 (List.drop (ow + 0) D))[0]? = true then
 (if isIntV i64 (List.take 3 (List.drop (ow + 0) D))[1]? = true then
 (if isIntV i64 (List.take 3 (List.drop (ow + 0) D))[2]? = true then
 (if (!(decide (strV (some (AV.str (strV (putCells [AV.str [], int i64 0] 0 (List.take 2 (List.drop (o + 0) C)))[0]?))) = strV (List.take 3 (List.drop (ow + 0) D))[0]?) && (intV (some (int i64 (intV (putCells [AV.str [], int i64 0] 0 (List.take 2 (List.drop (o + 0) C)))[1]?))) == intV (List.take 3 (List.drop (ow + 0) D))[1]? && (intV (some (int i64 (i64.wrap (intV (some (int i64 x)) - (n : Int))))) == intV (List.take 3 (List.drop (ow + 0) D))[2]? && true)))) = true then
 none
 else (if Int.ofNat 0 ≤ Int.ofNat 1 ∧ 1 ≤ (n : Int) then
 (if decide ((((n - 1) : Nat) : Int) > 0) = true then
 (if Int.ofNat 0 ≤ Int.ofNat 0 ∧ 0 < (((n - 1) : Nat) : Int) then
 (if isIntV i64 D[ow + 3 + 0 + 2]? = true then
 (if cdec (AllR [AV.ptr (some (1, 0)), int i64 (-1)] (hFAP0 l m x i o ow n C D) (AV.sl (some (6, 0)) (opq (cntA (nOf (AV.sl (some (2, o + 2)) (n - 1) (roomOf n 0 1 true n false) false)) (-1))) 0 false) (hFAP1 l m x i o ow n C D)) = true then
 (if cdec (AllR [AV.ptr (some (1, 0)), int i64 1] (hFAP2 l m x i o ow n C D) (AV.sl (some (7, 0)) (opq (cntA (nOf (AV.sl (some (2, o + 2)) (n - 1) (roomOf n 0 1 true n false) false)) 1)) 0 false) (hFAP3 l m x i o ow n C D)) = true then
 (if ((((n - 1) : Nat) : Int) != (((n - 1) : Nat) : Int)) = true then
 none
 else (if (intV (some (int i64 x)) != x) = true then
 none
 else (if (i64.wrap (intV (some (int i64 x)) - (((n - 1) : Nat) : Int)) != intV D[ow + 3 + 0 + 2]?) = true then
 none
 else (if ((((opq (cntA (nOf (AV.sl (some (2, o + 2)) (n - 1) (roomOf n 0 1 true n false) false)) (-1))) : Nat) : Int) != (((n - 1) : Nat) : Int)) = true then
 none
 else (if ((((opq (cntA (nOf (AV.sl (some (2, o + 2)) (n - 1) (roomOf n 0 1 true n false) false)) 1)) : Nat) : Int) != if false = true then if (((n - 1) : Nat) : Int) > 1 then (((n - 1) : Nat) : Int) else 1 else if (((n - 1) : Nat) : Int) < 1 then (((n - 1) : Nat) : Int) else 1) = false then
 (if cdec (LSays bFA2 8 [int i64 m, AV.sl (some (0, 0)) l.length 0 false, AV.ptr (some (1, 0)), AV.sl (some (3, ow + 3)) (n - 1) (roomOf n 0 1 true n false) false, int i64 x, int i64 i, AV.sl (some (6, 0)) (opq (cntA (nOf (AV.sl (some (2, o + 2)) (n - 1) (roomOf n 0 1 true n false) false)) (-1))) 0 false, AV.sl (some (7, 0)) (opq (cntA (nOf (AV.sl (some (2, o + 2)) (n - 1) (roomOf n 0 1 true n false) false)) 1)) 0 false, int i64 0] (hFAP4 l m x i o ow n C D) (AEx.exit 5) [int i64 m, AV.sl (some (0, 0)) l.length 0 false, AV.ptr (some (1, 0)), AV.sl (some (3, ow + 3)) (n - 1) (roomOf n 0 1 true n false) false, int i64 x, int i64 i, AV.sl (some (6, 0)) (opq (cntA (nOf (AV.sl (some (2, o + 2)) (n - 1) (roomOf n 0 1 true n false) false)) (-1))) 0 false, AV.sl (some (7, 0)) (opq (cntA (nOf (AV.sl (some (2, o + 2)) (n - 1) (roomOf n 0 1 true n false) false)) 1)) 0 false, int i64 (((nOf (AV.sl (some (3, ow + 3)) (n - 1) (roomOf n 0 1 true n false) false)) : Nat) : Int)] (hFAP4 l m x i o ow n C D)) = true then
 some ((AEx.norm, [int i64 m, AV.sl (some (0, 0)) l.length 0 false, AV.ptr (some (1, 0)), AV.sl (some (3, ow + 3)) (n - 1) (roomOf n 0 1 true n false) false, int i64 x, int i64 (i64.wrap (i + 1))], (hFAP4 l m x i o ow n C D)))
 else none) else none)))))
 else none) else none) else none) else none) else none) else none))
 else none) else none) else none) else none) else none))
 else none) else none) else none) else none) else none) else none) else none))
 else none) else none) else none) else none) else none) else none) := by
  kernel_rfl

noncomputable def hFAE0 (l : List Int) (m x i : Int) (o ow n : Nat) (C D : List AV) : AHeap := [cells (List.map (int i64) l) 1 Md.far none, cells [int i64 m, int i64 x, AV.sl (some (2, o + 2)) (n - 1) (roomOf n 0 1 true n false) false] 3 Md.own none, ABlk.cells C 2 Md.own none, ABlk.cells D 3 Md.own none, cells [int u8 (u8.wrap (i64.wrap (97 + intV (List.map (int i64) l)[0 + i.toNat * 1]? % 9)))] 1 Md.own none, cells (putCells [AV.str [], int i64 0] 0 (List.take 2 (List.drop (o + 0) C))) 2 Md.own none]
noncomputable def hFAE1 (l : List Int) (m x i : Int) (o ow n : Nat) (C D : List AV) : AHeap := [cells (opq (itmOf (rowOf (hFAE0 l m x i o ow n C D) (AV.sl (some (2, o + 2)) (n - 1) (roomOf n 0 1 true n false) false)) (cntA (nOf (AV.sl (some (2, o + 2)) (n - 1) (roomOf n 0 1 true n false) false)) (-1)))) 3 Md.own none]
noncomputable def hFAE2 (l : List Int) (m x i : Int) (o ow n : Nat) (C D : List AV) : AHeap := [cells (List.map (int i64) l) 1 Md.far none, cells [int i64 m, int i64 x, AV.sl (some (2, o + 2)) (n - 1) (roomOf n 0 1 true n false) false] 3 Md.own none, ABlk.cells C 2 Md.own none, ABlk.cells D 3 Md.own none, cells [int u8 (u8.wrap (i64.wrap (97 + intV (List.map (int i64) l)[0 + i.toNat * 1]? % 9)))] 1 Md.own none, cells (putCells [AV.str [], int i64 0] 0 (List.take 2 (List.drop (o + 0) C))) 2 Md.own none, cells (opq (itmOf (rowOf (hFAE0 l m x i o ow n C D) (AV.sl (some (2, o + 2)) (n - 1) (roomOf n 0 1 true n false) false)) (cntA (nOf (AV.sl (some (2, o + 2)) (n - 1) (roomOf n 0 1 true n false) false)) (-1)))) 3 Md.own none]
noncomputable def hFAE3 (l : List Int) (m x i : Int) (o ow n : Nat) (C D : List AV) : AHeap := [cells (opq (itmOf (rowOf (hFAE2 l m x i o ow n C D) (AV.sl (some (2, o + 2)) (n - 1) (roomOf n 0 1 true n false) false)) (cntA (nOf (AV.sl (some (2, o + 2)) (n - 1) (roomOf n 0 1 true n false) false)) 1))) 3 Md.own none]
noncomputable def hFAE4 (l : List Int) (m x i : Int) (o ow n : Nat) (C D : List AV) : AHeap := [cells (List.map (int i64) l) 1 Md.far none, cells [int i64 m, int i64 x, AV.sl (some (2, o + 2)) (n - 1) (roomOf n 0 1 true n false) false] 3 Md.own none, ABlk.cells C 2 Md.own none, ABlk.cells D 3 Md.own none, cells [int u8 (u8.wrap (i64.wrap (97 + intV (List.map (int i64) l)[0 + i.toNat * 1]? % 9)))] 1 Md.own none, cells (putCells [AV.str [], int i64 0] 0 (List.take 2 (List.drop (o + 0) C))) 2 Md.own none, cells (opq (itmOf (rowOf (hFAE0 l m x i o ow n C D) (AV.sl (some (2, o + 2)) (n - 1) (roomOf n 0 1 true n false) false)) (cntA (nOf (AV.sl (some (2, o + 2)) (n - 1) (roomOf n 0 1 true n false) false)) (-1)))) 3 Md.own none, cells (opq (itmOf (rowOf (hFAE2 l m x i o ow n C D) (AV.sl (some (2, o + 2)) (n - 1) (roomOf n 0 1 true n false) false)) (cntA (nOf (AV.sl (some (2, o + 2)) (n - 1) (roomOf n 0 1 true n false) false)) 1))) 3 Md.own none]
theorem nfFAE (l : List Int) (m x i : Int) (o ow n : Nat) (C D : List AV) :
 qround Try.prog tFA 100 5 [(60, .bool true), (77, .bool true), (118, .bool false), (119, .bool true), (184, .bool false), (224, .bool false)] lsFA FA0 mFA0 (vFA0 m l 3 ow n x i) (hFAq l m x 2 o n C D) =
 (if decide (i < (l.length : Int)) = true then
 (if 0 ≤ i ∧ i < (l.length : Int) then
 (if isIntV i64 (List.map (int i64) l)[0 + i.toNat * 1]? = true then
 (if 0 ≤ i ∧ i < (l.length : Int) then
 (if isIntV i64 (List.map (int i64) l)[0 + i.toNat * 1]? = true then
 (if (intV (List.map (int i64) l)[0 + i.toNat * 1]? % 9 == 8) = true then
 (if ((n : Int) == 0) = true then
 (if (!false == decide ((n : Int) > 0)) = true then
 none
 else none)
 else (if Int.ofNat 0 ≤ Int.ofNat 0 ∧ 0 < (n : Int) then
 (if o + 0 + 2 ≤ C.length then
 (if (List.take 2 (List.drop (o + 0) C)).length = 2 then
 (if 0 + (List.take 2 (List.drop (o + 0) C)).length ≤ 2 ∧ (List.take 2 (List.drop (o + 0) C)).all AV.isCell = true then
 (if Int.ofNat 0 ≤ Int.ofNat 1 ∧ 1 ≤ (n : Int) then
 (if isStrV (putCells [AV.str [], int i64 0] 0 (List.take 2 (List.drop (o + 0) C)))[0]? = true then
 (if isIntV i64 (putCells [AV.str [], int i64 0] 0 (List.take 2 (List.drop (o + 0) C)))[1]? = true then
 (if (!true == decide ((n : Int) > 0)) = true then
 none
 else (if Int.ofNat 0 ≤ Int.ofNat 0 ∧ 0 < (n : Int) then
 (if ow + 0 + 3 ≤ D.length then
 (if isStrV (List.take 3 (List.drop (ow + 0) D))[0]? = true then
 (if isIntV i64 (List.take 3 (List.drop (ow + 0) D))[1]? = true then
 (if isIntV i64 (List.take 3 (List.drop (ow + 0) D))[2]? = true then
 (if (!(decide (strV (some (AV.str (strV (putCells [AV.str [], int i64 0] 0 (List.take 2 (List.drop (o + 0) C)))[0]?))) = strV (List.take 3 (List.drop (ow + 0) D))[0]?) && (intV (some (int i64 (intV (putCells [AV.str [], int i64 0] 0 (List.take 2 (List.drop (o + 0) C)))[1]?))) == intV (List.take 3 (List.drop (ow + 0) D))[1]? && (intV (some (int i64 (i64.wrap (intV (some (int i64 x)) - (n : Int))))) == intV (List.take 3 (List.drop (ow + 0) D))[2]? && true)))) = true then
 none
 else (if Int.ofNat 0 ≤ Int.ofNat 1 ∧ 1 ≤ (n : Int) then
 (if decide ((((n - 1) : Nat) : Int) > 0) = false then
 (if cdec (AllR [AV.ptr (some (1, 0)), int i64 (-1)] (hFAE0 l m x i o ow n C D) (AV.sl (some (6, 0)) (opq (cntA (nOf (AV.sl (some (2, o + 2)) (n - 1) (roomOf n 0 1 true n false) false)) (-1))) 0 false) (hFAE1 l m x i o ow n C D)) = true then
 (if cdec (AllR [AV.ptr (some (1, 0)), int i64 1] (hFAE2 l m x i o ow n C D) (AV.sl (some (7, 0)) (opq (cntA (nOf (AV.sl (some (2, o + 2)) (n - 1) (roomOf n 0 1 true n false) false)) 1)) 0 false) (hFAE3 l m x i o ow n C D)) = true then
 (if ((((n - 1) : Nat) : Int) != (((n - 1) : Nat) : Int)) = true then
 none
 else (if (intV (some (int i64 x)) != x) = true then
 none
 else (if (i64.wrap (intV (some (int i64 x)) - (((n - 1) : Nat) : Int)) != x) = true then
 none
 else (if ((((opq (cntA (nOf (AV.sl (some (2, o + 2)) (n - 1) (roomOf n 0 1 true n false) false)) (-1))) : Nat) : Int) != (((n - 1) : Nat) : Int)) = true then
 none
 else (if ((((opq (cntA (nOf (AV.sl (some (2, o + 2)) (n - 1) (roomOf n 0 1 true n false) false)) 1)) : Nat) : Int) != if false = true then if (((n - 1) : Nat) : Int) > 1 then (((n - 1) : Nat) : Int) else 1 else if (((n - 1) : Nat) : Int) < 1 then (((n - 1) : Nat) : Int) else 1) = false then
 (if cdec (LSays bFA2 8 [int i64 m, AV.sl (some (0, 0)) l.length 0 false, AV.ptr (some (1, 0)), AV.sl (some (3, ow + 3)) (n - 1) (roomOf n 0 1 true n false) false, int i64 x, int i64 i, AV.sl (some (6, 0)) (opq (cntA (nOf (AV.sl (some (2, o + 2)) (n - 1) (roomOf n 0 1 true n false) false)) (-1))) 0 false, AV.sl (some (7, 0)) (opq (cntA (nOf (AV.sl (some (2, o + 2)) (n - 1) (roomOf n 0 1 true n false) false)) 1)) 0 false, int i64 0] (hFAE4 l m x i o ow n C D) (AEx.exit 5) [int i64 m, AV.sl (some (0, 0)) l.length 0 false, AV.ptr (some (1, 0)), AV.sl (some (3, ow + 3)) (n - 1) (roomOf n 0 1 true n false) false, int i64 x, int i64 i, AV.sl (some (6, 0)) (opq (cntA (nOf (AV.sl (some (2, o + 2)) (n - 1) (roomOf n 0 1 true n false) false)) (-1))) 0 false, AV.sl (some (7, 0)) (opq (cntA (nOf (AV.sl (some (2, o + 2)) (n - 1) (roomOf n 0 1 true n false) false)) 1)) 0 false, int i64 (((nOf (AV.sl (some (3, ow + 3)) (n - 1) (roomOf n 0 1 true n false) false)) : Nat) : Int)] (hFAE4 l m x i o ow n C D)) = true then
 some ((AEx.norm, [int i64 m, AV.sl (some (0, 0)) l.length 0 false, AV.ptr (some (1, 0)), AV.sl (some (3, ow + 3)) (n - 1) (roomOf n 0 1 true n false) false, int i64 x, int i64 (i64.wrap (i + 1))], (hFAE4 l m x i o ow n C D)))
 else none) else none)))))
 else none) else none) else none) else none))
 else none) else none) else none) else none) else none))
 else none) else none) else none) else none) else none) else none) else none))
 else none) else none) else none) else none) else none) else none) := by
  kernel_rfl

noncomputable def hFAH0 (l : List Int) (m x i : Int) (o ow n : Nat) (C D : List AV) : AHeap := [cells (List.map (int i64) l) 1 Md.far none, cells [int i64 m, int i64 x, AV.sl (some (2, o)) n 0 false] 3 Md.own none, ABlk.cells C 2 Md.own none, ABlk.cells D 3 Md.own none, cells [int u8 (u8.wrap (i64.wrap (97 + intV (List.map (int i64) l)[0 + i.toNat * 1]? % 9)))] 1 Md.own none]
noncomputable def hFAH1 (l : List Int) (m x i : Int) (o ow n : Nat) (C D : List AV) : AHeap := [cells (List.map (int i64) l) 1 Md.far none, cells [int i64 m, int i64 x, AV.sl (some (2, o)) n 0 false] 3 Md.own none, ABlk.cells C 2 Md.own none, ABlk.cells D 3 Md.own none, cells [int u8 (u8.wrap (i64.wrap (97 + intV (List.map (int i64) l)[0 + i.toNat * 1]? % 9)))] 1 Md.own none, cells [AV.str (List.map byteD [int u8 (u8.wrap (i64.wrap (97 + intV (List.map (int i64) l)[0 + i.toNat * 1]? % 9)))])] 1 Md.own none]
noncomputable def hFAH2 (l : List Int) (m x i : Int) (o ow n : Nat) (C D : List AV) : AHeap := []
noncomputable def hFAH3 (l : List Int) (m x i : Int) (o ow n : Nat) (C D : List AV) : AHeap := [cells (opq (itmOf (rowOf (hFAH1 l m x i o ow n C D) (AV.sl (some (2, o)) n 0 false)) (cntA (nOf (AV.sl (some (2, o)) n 0 false)) (-1)))) 3 Md.own none]
noncomputable def hFAH4 (l : List Int) (m x i : Int) (o ow n : Nat) (C D : List AV) : AHeap := [cells (List.map (int i64) l) 1 Md.far none, cells [int i64 m, int i64 x, AV.sl (some (2, o)) n 0 false] 3 Md.own none, ABlk.cells C 2 Md.own none, ABlk.cells D 3 Md.own none, cells [int u8 (u8.wrap (i64.wrap (97 + intV (List.map (int i64) l)[0 + i.toNat * 1]? % 9)))] 1 Md.own none, cells [AV.str (List.map byteD [int u8 (u8.wrap (i64.wrap (97 + intV (List.map (int i64) l)[0 + i.toNat * 1]? % 9)))])] 1 Md.own none, cells (opq (itmOf (rowOf (hFAH1 l m x i o ow n C D) (AV.sl (some (2, o)) n 0 false)) (cntA (nOf (AV.sl (some (2, o)) n 0 false)) (-1)))) 3 Md.own none]
noncomputable def hFAH5 (l : List Int) (m x i : Int) (o ow n : Nat) (C D : List AV) : AHeap := [cells (opq (itmOf (rowOf (hFAH4 l m x i o ow n C D) (AV.sl (some (2, o)) n 0 false)) (cntA (nOf (AV.sl (some (2, o)) n 0 false)) 1))) 3 Md.own none]
noncomputable def hFAH6 (l : List Int) (m x i : Int) (o ow n : Nat) (C D : List AV) : AHeap := [cells (List.map (int i64) l) 1 Md.far none, cells [int i64 m, int i64 x, AV.sl (some (2, o)) n 0 false] 3 Md.own none, ABlk.cells C 2 Md.own none, ABlk.cells D 3 Md.own none, cells [int u8 (u8.wrap (i64.wrap (97 + intV (List.map (int i64) l)[0 + i.toNat * 1]? % 9)))] 1 Md.own none, cells [AV.str (List.map byteD [int u8 (u8.wrap (i64.wrap (97 + intV (List.map (int i64) l)[0 + i.toNat * 1]? % 9)))])] 1 Md.own none, cells (opq (itmOf (rowOf (hFAH1 l m x i o ow n C D) (AV.sl (some (2, o)) n 0 false)) (cntA (nOf (AV.sl (some (2, o)) n 0 false)) (-1)))) 3 Md.own none, cells (opq (itmOf (rowOf (hFAH4 l m x i o ow n C D) (AV.sl (some (2, o)) n 0 false)) (cntA (nOf (AV.sl (some (2, o)) n 0 false)) 1))) 3 Md.own none]
theorem nfFAH (l : List Int) (m x i : Int) (o ow n : Nat) (C D : List AV) :
 qround Try.prog tFA 100 5 [(60, .bool true), (77, .bool false), (163, .bool true), (169, .bool false), (184, .bool true), (224, .bool false)] lsFA FA0 mFA0 (vFA0 m l 3 ow n x i) (hFAq l m x 2 o n C D) =
 (if decide (i < (l.length : Int)) = true then
 (if 0 ≤ i ∧ i < (l.length : Int) then
 (if isIntV i64 (List.map (int i64) l)[0 + i.toNat * 1]? = true then
 (if 0 ≤ i ∧ i < (l.length : Int) then
 (if isIntV i64 (List.map (int i64) l)[0 + i.toNat * 1]? = true then
 (if (intV (List.map (int i64) l)[0 + i.toNat * 1]? % 9 == 8) = false then
 (if cdec (LSays bFA1 5 [int i64 m, AV.sl (some (0, 0)) l.length 0 false, AV.ptr (some (1, 0)), AV.sl (some (3, ow)) n 0 false, int i64 x, int i64 i, AV.str (List.map byteD [int u8 (u8.wrap (i64.wrap (97 + intV (List.map (int i64) l)[0 + i.toNat * 1]? % 9)))]), int i64 (-1), int i64 0] (hFAH0 l m x i o ow n C D) (AEx.exit 2) [int i64 m, AV.sl (some (0, 0)) l.length 0 false, AV.ptr (some (1, 0)), AV.sl (some (3, ow)) n 0 false, int i64 x, int i64 i, AV.str (List.map byteD [int u8 (u8.wrap (i64.wrap (97 + intV (List.map (int i64) l)[0 + i.toNat * 1]? % 9)))]), int i64 (opq (hadF [int i64 m, AV.sl (some (0, 0)) l.length 0 false, AV.ptr (some (1, 0)), AV.sl (some (3, ow)) n 0 false, int i64 x, int i64 i, AV.str (List.map byteD [int u8 (u8.wrap (i64.wrap (97 + intV (List.map (int i64) l)[0 + i.toNat * 1]? % 9)))]), int i64 (-1), int i64 0] (hFAH0 l m x i o ow n C D))), int i64 (((nOf (AV.sl (some (3, ow)) n 0 false)) : Nat) : Int)] (hFAH0 l m x i o ow n C D)) = true then
 (if cdec (RIxsi [AV.sl (some (2, o)) n 0 false, AV.fn (Fn.func 40) [AV.ptr (some (5, 0))]] (hFAH1 l m x i o ow n C D) (int i64 (intC RIxsi [AV.sl (some (2, o)) n 0 false, AV.fn (Fn.func 40) [AV.ptr (some (5, 0))]] (hFAH1 l m x i o ow n C D))) (hFAH2 l m x i o ow n C D)) = true then
 (if decide (intC RIxsi [AV.sl (some (2, o)) n 0 false, AV.fn (Fn.func 40) [AV.ptr (some (5, 0))]] (hFAH1 l m x i o ow n C D) ≥ 0) = true then
 (if decide (opq (hadF [int i64 m, AV.sl (some (0, 0)) l.length 0 false, AV.ptr (some (1, 0)), AV.sl (some (3, ow)) n 0 false, int i64 x, int i64 i, AV.str (List.map byteD [int u8 (u8.wrap (i64.wrap (97 + intV (List.map (int i64) l)[0 + i.toNat * 1]? % 9)))]), int i64 (-1), int i64 0] (hFAH0 l m x i o ow n C D)) ≥ 0) = true then
 (if decide ((n : Int) > 0) = true then
 (if Int.ofNat 0 ≤ Int.ofNat 0 ∧ 0 < (n : Int) then
 (if isIntV i64 D[ow + 0 + 2]? = true then
 (if cdec (AllR [AV.ptr (some (1, 0)), int i64 (-1)] (hFAH1 l m x i o ow n C D) (AV.sl (some (6, 0)) (opq (cntA (nOf (AV.sl (some (2, o)) n 0 false)) (-1))) 0 false) (hFAH3 l m x i o ow n C D)) = true then
 (if cdec (AllR [AV.ptr (some (1, 0)), int i64 1] (hFAH4 l m x i o ow n C D) (AV.sl (some (7, 0)) (opq (cntA (nOf (AV.sl (some (2, o)) n 0 false)) 1)) 0 false) (hFAH5 l m x i o ow n C D)) = true then
 (if ((n : Int) != (n : Int)) = true then
 none
 else (if (intV (some (int i64 x)) != x) = true then
 none
 else (if (i64.wrap (intV (some (int i64 x)) - (n : Int)) != intV D[ow + 0 + 2]?) = true then
 none
 else (if ((((opq (cntA (nOf (AV.sl (some (2, o)) n 0 false)) (-1))) : Nat) : Int) != (n : Int)) = true then
 none
 else (if ((((opq (cntA (nOf (AV.sl (some (2, o)) n 0 false)) 1)) : Nat) : Int) != if false = true then if (n : Int) > 1 then (n : Int) else 1 else if (n : Int) < 1 then (n : Int) else 1) = false then
 (if cdec (LSays bFA2 8 [int i64 m, AV.sl (some (0, 0)) l.length 0 false, AV.ptr (some (1, 0)), AV.sl (some (3, ow)) n 0 false, int i64 x, int i64 i, AV.sl (some (6, 0)) (opq (cntA (nOf (AV.sl (some (2, o)) n 0 false)) (-1))) 0 false, AV.sl (some (7, 0)) (opq (cntA (nOf (AV.sl (some (2, o)) n 0 false)) 1)) 0 false, int i64 0] (hFAH6 l m x i o ow n C D) (AEx.exit 5) [int i64 m, AV.sl (some (0, 0)) l.length 0 false, AV.ptr (some (1, 0)), AV.sl (some (3, ow)) n 0 false, int i64 x, int i64 i, AV.sl (some (6, 0)) (opq (cntA (nOf (AV.sl (some (2, o)) n 0 false)) (-1))) 0 false, AV.sl (some (7, 0)) (opq (cntA (nOf (AV.sl (some (2, o)) n 0 false)) 1)) 0 false, int i64 (((nOf (AV.sl (some (3, ow)) n 0 false)) : Nat) : Int)] (hFAH6 l m x i o ow n C D)) = true then
 some ((AEx.norm, [int i64 m, AV.sl (some (0, 0)) l.length 0 false, AV.ptr (some (1, 0)), AV.sl (some (3, ow)) n 0 false, int i64 x, int i64 (i64.wrap (i + 1))], (hFAH6 l m x i o ow n C D)))
 else none) else none)))))
 else none) else none) else none) else none) else none) else none)
 else (if decide ((n : Int) ≥ intV (some (int i64 m))) = true then
 (if decide (opq (hadF [int i64 m, AV.sl (some (0, 0)) l.length 0 false, AV.ptr (some (1, 0)), AV.sl (some (3, ow)) n 0 false, int i64 x, int i64 i, AV.str (List.map byteD [int u8 (u8.wrap (i64.wrap (97 + intV (List.map (int i64) l)[0 + i.toNat * 1]? % 9)))]), int i64 (-1), int i64 0] (hFAH0 l m x i o ow n C D)) ≥ 0) = true then
 none
 else none)
 else (if (2 * (n + 1) + 200) * 24 ≤ 281474976710656 ∧ some 2 = some 2 ∧ n + 1 ≤ 70368744177664 then
 (if o + n * 2 ≤ C.length then
 (if 0 = 0 ∧ o + n * 2 = C.length ∧ (0 < 1 ∨ o = 0) ∧ 2 = 2 ∧ [AV.str (List.map byteD [int u8 (u8.wrap (i64.wrap (97 + intV (List.map (int i64) l)[0 + i.toNat * 1]? % 9)))]), int i64 i].all AV.isCell = true then
 (if decide (opq (hadF [int i64 m, AV.sl (some (0, 0)) l.length 0 false, AV.ptr (some (1, 0)), AV.sl (some (3, ow)) n 0 false, int i64 x, int i64 i, AV.str (List.map byteD [int u8 (u8.wrap (i64.wrap (97 + intV (List.map (int i64) l)[0 + i.toNat * 1]? % 9)))]), int i64 (-1), int i64 0] (hFAH0 l m x i o ow n C D)) ≥ 0) = true then
 none
 else none) else none) else none) else none)))
 else none) else none) else none) else none) else none) else none) else none) else none) := by
  kernel_rfl

noncomputable def hFAF0 (l : List Int) (m x i : Int) (o ow n : Nat) (C D : List AV) : AHeap := [cells (List.map (int i64) l) 1 Md.far none, cells [int i64 m, int i64 x, AV.sl (some (2, o)) n 0 false] 3 Md.own none, ABlk.cells C 2 Md.own none, ABlk.cells D 3 Md.own none, cells [int u8 (u8.wrap (i64.wrap (97 + intV (List.map (int i64) l)[0 + i.toNat * 1]? % 9)))] 1 Md.own none]
noncomputable def hFAF1 (l : List Int) (m x i : Int) (o ow n : Nat) (C D : List AV) : AHeap := [cells (List.map (int i64) l) 1 Md.far none, cells [int i64 m, int i64 x, AV.sl (some (2, o)) n 0 false] 3 Md.own none, ABlk.cells C 2 Md.own none, ABlk.cells D 3 Md.own none, cells [int u8 (u8.wrap (i64.wrap (97 + intV (List.map (int i64) l)[0 + i.toNat * 1]? % 9)))] 1 Md.own none, cells [AV.str (List.map byteD [int u8 (u8.wrap (i64.wrap (97 + intV (List.map (int i64) l)[0 + i.toNat * 1]? % 9)))])] 1 Md.own none]
noncomputable def hFAF2 (l : List Int) (m x i : Int) (o ow n : Nat) (C D : List AV) : AHeap := []
noncomputable def hFAF3 (l : List Int) (m x i : Int) (o ow n : Nat) (C D : List AV) : AHeap := [cells (opq (itmOf (rowOf (hFAF1 l m x i o ow n C D) (AV.sl (some (2, o)) n 0 false)) (cntA (nOf (AV.sl (some (2, o)) n 0 false)) (-1)))) 3 Md.own none]
noncomputable def hFAF4 (l : List Int) (m x i : Int) (o ow n : Nat) (C D : List AV) : AHeap := [cells (List.map (int i64) l) 1 Md.far none, cells [int i64 m, int i64 x, AV.sl (some (2, o)) n 0 false] 3 Md.own none, ABlk.cells C 2 Md.own none, ABlk.cells D 3 Md.own none, cells [int u8 (u8.wrap (i64.wrap (97 + intV (List.map (int i64) l)[0 + i.toNat * 1]? % 9)))] 1 Md.own none, cells [AV.str (List.map byteD [int u8 (u8.wrap (i64.wrap (97 + intV (List.map (int i64) l)[0 + i.toNat * 1]? % 9)))])] 1 Md.own none, cells (opq (itmOf (rowOf (hFAF1 l m x i o ow n C D) (AV.sl (some (2, o)) n 0 false)) (cntA (nOf (AV.sl (some (2, o)) n 0 false)) (-1)))) 3 Md.own none]
noncomputable def hFAF5 (l : List Int) (m x i : Int) (o ow n : Nat) (C D : List AV) : AHeap := [cells (opq (itmOf (rowOf (hFAF4 l m x i o ow n C D) (AV.sl (some (2, o)) n 0 false)) (cntA (nOf (AV.sl (some (2, o)) n 0 false)) 1))) 3 Md.own none]
noncomputable def hFAF6 (l : List Int) (m x i : Int) (o ow n : Nat) (C D : List AV) : AHeap := [cells (List.map (int i64) l) 1 Md.far none, cells [int i64 m, int i64 x, AV.sl (some (2, o)) n 0 false] 3 Md.own none, ABlk.cells C 2 Md.own none, ABlk.cells D 3 Md.own none, cells [int u8 (u8.wrap (i64.wrap (97 + intV (List.map (int i64) l)[0 + i.toNat * 1]? % 9)))] 1 Md.own none, cells [AV.str (List.map byteD [int u8 (u8.wrap (i64.wrap (97 + intV (List.map (int i64) l)[0 + i.toNat * 1]? % 9)))])] 1 Md.own none, cells (opq (itmOf (rowOf (hFAF1 l m x i o ow n C D) (AV.sl (some (2, o)) n 0 false)) (cntA (nOf (AV.sl (some (2, o)) n 0 false)) (-1)))) 3 Md.own none, cells (opq (itmOf (rowOf (hFAF4 l m x i o ow n C D) (AV.sl (some (2, o)) n 0 false)) (cntA (nOf (AV.sl (some (2, o)) n 0 false)) 1))) 3 Md.own none]
theorem nfFAF (l : List Int) (m x i : Int) (o ow n : Nat) (C D : List AV) :
 qround Try.prog tFA 100 5 [(60, .bool true), (77, .bool false), (163, .bool false), (174, .bool true), (180, .bool false), (184, .bool true), (224, .bool false)] lsFA FA0 mFA0 (vFA0 m l 3 ow n x i) (hFAq l m x 2 o n C D) =
 (if decide (i < (l.length : Int)) = true then
 (if 0 ≤ i ∧ i < (l.length : Int) then
 (if isIntV i64 (List.map (int i64) l)[0 + i.toNat * 1]? = true then
 (if 0 ≤ i ∧ i < (l.length : Int) then
 (if isIntV i64 (List.map (int i64) l)[0 + i.toNat * 1]? = true then
 (if (intV (List.map (int i64) l)[0 + i.toNat * 1]? % 9 == 8) = false then
 (if cdec (LSays bFA1 5 [int i64 m, AV.sl (some (0, 0)) l.length 0 false, AV.ptr (some (1, 0)), AV.sl (some (3, ow)) n 0 false, int i64 x, int i64 i, AV.str (List.map byteD [int u8 (u8.wrap (i64.wrap (97 + intV (List.map (int i64) l)[0 + i.toNat * 1]? % 9)))]), int i64 (-1), int i64 0] (hFAF0 l m x i o ow n C D) (AEx.exit 2) [int i64 m, AV.sl (some (0, 0)) l.length 0 false, AV.ptr (some (1, 0)), AV.sl (some (3, ow)) n 0 false, int i64 x, int i64 i, AV.str (List.map byteD [int u8 (u8.wrap (i64.wrap (97 + intV (List.map (int i64) l)[0 + i.toNat * 1]? % 9)))]), int i64 (opq (hadF [int i64 m, AV.sl (some (0, 0)) l.length 0 false, AV.ptr (some (1, 0)), AV.sl (some (3, ow)) n 0 false, int i64 x, int i64 i, AV.str (List.map byteD [int u8 (u8.wrap (i64.wrap (97 + intV (List.map (int i64) l)[0 + i.toNat * 1]? % 9)))]), int i64 (-1), int i64 0] (hFAF0 l m x i o ow n C D))), int i64 (((nOf (AV.sl (some (3, ow)) n 0 false)) : Nat) : Int)] (hFAF0 l m x i o ow n C D)) = true then
 (if cdec (RIxsi [AV.sl (some (2, o)) n 0 false, AV.fn (Fn.func 40) [AV.ptr (some (5, 0))]] (hFAF1 l m x i o ow n C D) (int i64 (intC RIxsi [AV.sl (some (2, o)) n 0 false, AV.fn (Fn.func 40) [AV.ptr (some (5, 0))]] (hFAF1 l m x i o ow n C D))) (hFAF2 l m x i o ow n C D)) = true then
 (if decide (intC RIxsi [AV.sl (some (2, o)) n 0 false, AV.fn (Fn.func 40) [AV.ptr (some (5, 0))]] (hFAF1 l m x i o ow n C D) ≥ 0) = true then
 (if decide (opq (hadF [int i64 m, AV.sl (some (0, 0)) l.length 0 false, AV.ptr (some (1, 0)), AV.sl (some (3, ow)) n 0 false, int i64 x, int i64 i, AV.str (List.map byteD [int u8 (u8.wrap (i64.wrap (97 + intV (List.map (int i64) l)[0 + i.toNat * 1]? % 9)))]), int i64 (-1), int i64 0] (hFAF0 l m x i o ow n C D)) ≥ 0) = false then
 (if decide ((n : Int) ≥ m) = true then
 none
 else none) else none)
 else (if decide ((n : Int) ≥ intV (some (int i64 m))) = true then
 (if decide (opq (hadF [int i64 m, AV.sl (some (0, 0)) l.length 0 false, AV.ptr (some (1, 0)), AV.sl (some (3, ow)) n 0 false, int i64 x, int i64 i, AV.str (List.map byteD [int u8 (u8.wrap (i64.wrap (97 + intV (List.map (int i64) l)[0 + i.toNat * 1]? % 9)))]), int i64 (-1), int i64 0] (hFAF0 l m x i o ow n C D)) ≥ 0) = false then
 (if decide ((n : Int) ≥ m) = true then
 (if decide ((n : Int) > 0) = true then
 (if Int.ofNat 0 ≤ Int.ofNat 0 ∧ 0 < (n : Int) then
 (if isIntV i64 D[ow + 0 + 2]? = true then
 (if cdec (AllR [AV.ptr (some (1, 0)), int i64 (-1)] (hFAF1 l m x i o ow n C D) (AV.sl (some (6, 0)) (opq (cntA (nOf (AV.sl (some (2, o)) n 0 false)) (-1))) 0 false) (hFAF3 l m x i o ow n C D)) = true then
 (if cdec (AllR [AV.ptr (some (1, 0)), int i64 1] (hFAF4 l m x i o ow n C D) (AV.sl (some (7, 0)) (opq (cntA (nOf (AV.sl (some (2, o)) n 0 false)) 1)) 0 false) (hFAF5 l m x i o ow n C D)) = true then
 (if ((n : Int) != (n : Int)) = true then
 none
 else (if (intV (some (int i64 x)) != x) = true then
 none
 else (if (i64.wrap (intV (some (int i64 x)) - (n : Int)) != intV D[ow + 0 + 2]?) = true then
 none
 else (if ((((opq (cntA (nOf (AV.sl (some (2, o)) n 0 false)) (-1))) : Nat) : Int) != (n : Int)) = true then
 none
 else (if ((((opq (cntA (nOf (AV.sl (some (2, o)) n 0 false)) 1)) : Nat) : Int) != if false = true then if (n : Int) > 1 then (n : Int) else 1 else if (n : Int) < 1 then (n : Int) else 1) = false then
 (if cdec (LSays bFA2 8 [int i64 m, AV.sl (some (0, 0)) l.length 0 false, AV.ptr (some (1, 0)), AV.sl (some (3, ow)) n 0 false, int i64 x, int i64 i, AV.sl (some (6, 0)) (opq (cntA (nOf (AV.sl (some (2, o)) n 0 false)) (-1))) 0 false, AV.sl (some (7, 0)) (opq (cntA (nOf (AV.sl (some (2, o)) n 0 false)) 1)) 0 false, int i64 0] (hFAF6 l m x i o ow n C D) (AEx.exit 5) [int i64 m, AV.sl (some (0, 0)) l.length 0 false, AV.ptr (some (1, 0)), AV.sl (some (3, ow)) n 0 false, int i64 x, int i64 i, AV.sl (some (6, 0)) (opq (cntA (nOf (AV.sl (some (2, o)) n 0 false)) (-1))) 0 false, AV.sl (some (7, 0)) (opq (cntA (nOf (AV.sl (some (2, o)) n 0 false)) 1)) 0 false, int i64 (((nOf (AV.sl (some (3, ow)) n 0 false)) : Nat) : Int)] (hFAF6 l m x i o ow n C D)) = true then
 some ((AEx.norm, [int i64 m, AV.sl (some (0, 0)) l.length 0 false, AV.ptr (some (1, 0)), AV.sl (some (3, ow)) n 0 false, int i64 x, int i64 (i64.wrap (i + 1))], (hFAF6 l m x i o ow n C D)))
 else none) else none)))))
 else none) else none) else none) else none) else none) else none) else none)
 else (if (2 * (n + 1) + 200) * 24 ≤ 281474976710656 ∧ some 2 = some 2 ∧ n + 1 ≤ 70368744177664 then
 (if o + n * 2 ≤ C.length then
 (if 0 = 0 ∧ o + n * 2 = C.length ∧ (0 < 1 ∨ o = 0) ∧ 2 = 2 ∧ [AV.str (List.map byteD [int u8 (u8.wrap (i64.wrap (97 + intV (List.map (int i64) l)[0 + i.toNat * 1]? % 9)))]), int i64 i].all AV.isCell = true then
 (if decide (opq (hadF [int i64 m, AV.sl (some (0, 0)) l.length 0 false, AV.ptr (some (1, 0)), AV.sl (some (3, ow)) n 0 false, int i64 x, int i64 i, AV.str (List.map byteD [int u8 (u8.wrap (i64.wrap (97 + intV (List.map (int i64) l)[0 + i.toNat * 1]? % 9)))]), int i64 (-1), int i64 0] (hFAF0 l m x i o ow n C D)) ≥ 0) = false then
 (if decide ((n : Int) ≥ m) = true then
 none
 else none) else none) else none) else none) else none)))
 else none) else none) else none) else none) else none) else none) else none) else none) := by
  kernel_rfl

noncomputable def hFAO0 (l : List Int) (m x i : Int) (o ow n : Nat) (C D : List AV) : AHeap := [cells (List.map (int i64) l) 1 Md.far none, cells [int i64 m, int i64 x, AV.sl (some (2, o)) n 0 false] 3 Md.own none, ABlk.cells C 2 Md.own none, ABlk.cells D 3 Md.own none, cells [int u8 (u8.wrap (i64.wrap (97 + intV (List.map (int i64) l)[0 + i.toNat * 1]? % 9)))] 1 Md.own none]
noncomputable def hFAO1 (l : List Int) (m x i : Int) (o ow n : Nat) (C D : List AV) : AHeap := [cells (List.map (int i64) l) 1 Md.far none, cells [int i64 m, int i64 x, AV.sl (some (2, o)) n 0 false] 3 Md.own none, ABlk.cells C 2 Md.own none, ABlk.cells D 3 Md.own none, cells [int u8 (u8.wrap (i64.wrap (97 + intV (List.map (int i64) l)[0 + i.toNat * 1]? % 9)))] 1 Md.own none, cells [AV.str (List.map byteD [int u8 (u8.wrap (i64.wrap (97 + intV (List.map (int i64) l)[0 + i.toNat * 1]? % 9)))])] 1 Md.own none]
noncomputable def hFAO2 (l : List Int) (m x i : Int) (o ow n : Nat) (C D : List AV) : AHeap := []
noncomputable def hFAO3 (l : List Int) (m x i : Int) (o ow n : Nat) (C D : List AV) : AHeap := [cells (List.map (int i64) l) 1 Md.far none, cells [int i64 m, int i64 (i64.wrap (intV (some (int i64 x)) + 1)), AV.sl (some (7, 0)) (n + 1) 0 false] 3 Md.own none, ABlk.cells C 2 Md.ro none, ABlk.cells D 3 Md.own none, cells [int u8 (u8.wrap (i64.wrap (97 + intV (List.map (int i64) l)[0 + i.toNat * 1]? % 9)))] 1 Md.own none, cells [AV.str (List.map byteD [int u8 (u8.wrap (i64.wrap (97 + intV (List.map (int i64) l)[0 + i.toNat * 1]? % 9)))])] 1 Md.own none, cells [AV.str (List.map byteD [int u8 (u8.wrap (i64.wrap (97 + intV (List.map (int i64) l)[0 + i.toNat * 1]? % 9)))]), int i64 i] 2 Md.own none, cells (List.take (n * 2) (List.drop o C) ++ [AV.str (List.map byteD [int u8 (u8.wrap (i64.wrap (97 + intV (List.map (int i64) l)[0 + i.toNat * 1]? % 9)))]), int i64 i]) 2 Md.own (some 2), ABlk.dead, cells (List.take (n * 3) (List.drop ow D)) 3 Md.ro none, cells [AV.str (List.map byteD [int u8 (u8.wrap (i64.wrap (97 + intV (List.map (int i64) l)[0 + i.toNat * 1]? % 9)))]), int i64 i, int i64 x] 3 Md.own none, cells (List.take ((0 + n) * 3) (List.take (n * 3) (List.drop ow D)) ++ [AV.str (List.map byteD [int u8 (u8.wrap (i64.wrap (97 + intV (List.map (int i64) l)[0 + i.toNat * 1]? % 9)))]), int i64 i, int i64 x]) 3 Md.own (some 9)]
noncomputable def hFAO4 (l : List Int) (m x i : Int) (o ow n : Nat) (C D : List AV) : AHeap := [cells (opq (itmOf (rowOf (hFAO3 l m x i o ow n C D) (AV.sl (some (7, 0)) (n + 1) 0 false)) (cntA (nOf (AV.sl (some (7, 0)) (n + 1) 0 false)) (-1)))) 3 Md.own none]
noncomputable def hFAO5 (l : List Int) (m x i : Int) (o ow n : Nat) (C D : List AV) : AHeap := [cells (List.map (int i64) l) 1 Md.far none, cells [int i64 m, int i64 (i64.wrap (intV (some (int i64 x)) + 1)), AV.sl (some (7, 0)) (n + 1) 0 false] 3 Md.own none, ABlk.cells C 2 Md.ro none, ABlk.cells D 3 Md.own none, cells [int u8 (u8.wrap (i64.wrap (97 + intV (List.map (int i64) l)[0 + i.toNat * 1]? % 9)))] 1 Md.own none, cells [AV.str (List.map byteD [int u8 (u8.wrap (i64.wrap (97 + intV (List.map (int i64) l)[0 + i.toNat * 1]? % 9)))])] 1 Md.own none, cells [AV.str (List.map byteD [int u8 (u8.wrap (i64.wrap (97 + intV (List.map (int i64) l)[0 + i.toNat * 1]? % 9)))]), int i64 i] 2 Md.own none, cells (List.take (n * 2) (List.drop o C) ++ [AV.str (List.map byteD [int u8 (u8.wrap (i64.wrap (97 + intV (List.map (int i64) l)[0 + i.toNat * 1]? % 9)))]), int i64 i]) 2 Md.own (some 2), ABlk.dead, cells (List.take (n * 3) (List.drop ow D)) 3 Md.ro none, cells [AV.str (List.map byteD [int u8 (u8.wrap (i64.wrap (97 + intV (List.map (int i64) l)[0 + i.toNat * 1]? % 9)))]), int i64 i, int i64 x] 3 Md.own none, cells (List.take ((0 + n) * 3) (List.take (n * 3) (List.drop ow D)) ++ [AV.str (List.map byteD [int u8 (u8.wrap (i64.wrap (97 + intV (List.map (int i64) l)[0 + i.toNat * 1]? % 9)))]), int i64 i, int i64 x]) 3 Md.own (some 9), cells (opq (itmOf (rowOf (hFAO3 l m x i o ow n C D) (AV.sl (some (7, 0)) (n + 1) 0 false)) (cntA (nOf (AV.sl (some (7, 0)) (n + 1) 0 false)) (-1)))) 3 Md.own none]
noncomputable def hFAO6 (l : List Int) (m x i : Int) (o ow n : Nat) (C D : List AV) : AHeap := [cells (opq (itmOf (rowOf (hFAO5 l m x i o ow n C D) (AV.sl (some (7, 0)) (n + 1) 0 false)) (cntA (nOf (AV.sl (some (7, 0)) (n + 1) 0 false)) 1))) 3 Md.own none]
noncomputable def hFAO7 (l : List Int) (m x i : Int) (o ow n : Nat) (C D : List AV) : AHeap := [cells (List.map (int i64) l) 1 Md.far none, cells [int i64 m, int i64 (i64.wrap (intV (some (int i64 x)) + 1)), AV.sl (some (7, 0)) (n + 1) 0 false] 3 Md.own none, ABlk.cells C 2 Md.ro none, ABlk.cells D 3 Md.own none, cells [int u8 (u8.wrap (i64.wrap (97 + intV (List.map (int i64) l)[0 + i.toNat * 1]? % 9)))] 1 Md.own none, cells [AV.str (List.map byteD [int u8 (u8.wrap (i64.wrap (97 + intV (List.map (int i64) l)[0 + i.toNat * 1]? % 9)))])] 1 Md.own none, cells [AV.str (List.map byteD [int u8 (u8.wrap (i64.wrap (97 + intV (List.map (int i64) l)[0 + i.toNat * 1]? % 9)))]), int i64 i] 2 Md.own none, cells (List.take (n * 2) (List.drop o C) ++ [AV.str (List.map byteD [int u8 (u8.wrap (i64.wrap (97 + intV (List.map (int i64) l)[0 + i.toNat * 1]? % 9)))]), int i64 i]) 2 Md.own (some 2), ABlk.dead, cells (List.take (n * 3) (List.drop ow D)) 3 Md.ro none, cells [AV.str (List.map byteD [int u8 (u8.wrap (i64.wrap (97 + intV (List.map (int i64) l)[0 + i.toNat * 1]? % 9)))]), int i64 i, int i64 x] 3 Md.own none, cells (List.take ((0 + n) * 3) (List.take (n * 3) (List.drop ow D)) ++ [AV.str (List.map byteD [int u8 (u8.wrap (i64.wrap (97 + intV (List.map (int i64) l)[0 + i.toNat * 1]? % 9)))]), int i64 i, int i64 x]) 3 Md.own (some 9), cells (opq (itmOf (rowOf (hFAO3 l m x i o ow n C D) (AV.sl (some (7, 0)) (n + 1) 0 false)) (cntA (nOf (AV.sl (some (7, 0)) (n + 1) 0 false)) (-1)))) 3 Md.own none, cells (opq (itmOf (rowOf (hFAO5 l m x i o ow n C D) (AV.sl (some (7, 0)) (n + 1) 0 false)) (cntA (nOf (AV.sl (some (7, 0)) (n + 1) 0 false)) 1))) 3 Md.own none]
theorem nfFAO (l : List Int) (m x i : Int) (o ow n : Nat) (C D : List AV) :
 qround Try.prog tFA 100 5 [(60, .bool true), (77, .bool false), (163, .bool false), (174, .bool false), (149, .bool false), (184, .bool true), (224, .bool false)] lsFA FA0 mFA0 (vFA0 m l 3 ow n x i) (hFAq l m x 2 o n C D) =
 (if decide (i < (l.length : Int)) = true then
 (if 0 ≤ i ∧ i < (l.length : Int) then
 (if isIntV i64 (List.map (int i64) l)[0 + i.toNat * 1]? = true then
 (if 0 ≤ i ∧ i < (l.length : Int) then
 (if isIntV i64 (List.map (int i64) l)[0 + i.toNat * 1]? = true then
 (if (intV (List.map (int i64) l)[0 + i.toNat * 1]? % 9 == 8) = false then
 (if cdec (LSays bFA1 5 [int i64 m, AV.sl (some (0, 0)) l.length 0 false, AV.ptr (some (1, 0)), AV.sl (some (3, ow)) n 0 false, int i64 x, int i64 i, AV.str (List.map byteD [int u8 (u8.wrap (i64.wrap (97 + intV (List.map (int i64) l)[0 + i.toNat * 1]? % 9)))]), int i64 (-1), int i64 0] (hFAO0 l m x i o ow n C D) (AEx.exit 2) [int i64 m, AV.sl (some (0, 0)) l.length 0 false, AV.ptr (some (1, 0)), AV.sl (some (3, ow)) n 0 false, int i64 x, int i64 i, AV.str (List.map byteD [int u8 (u8.wrap (i64.wrap (97 + intV (List.map (int i64) l)[0 + i.toNat * 1]? % 9)))]), int i64 (opq (hadF [int i64 m, AV.sl (some (0, 0)) l.length 0 false, AV.ptr (some (1, 0)), AV.sl (some (3, ow)) n 0 false, int i64 x, int i64 i, AV.str (List.map byteD [int u8 (u8.wrap (i64.wrap (97 + intV (List.map (int i64) l)[0 + i.toNat * 1]? % 9)))]), int i64 (-1), int i64 0] (hFAO0 l m x i o ow n C D))), int i64 (((nOf (AV.sl (some (3, ow)) n 0 false)) : Nat) : Int)] (hFAO0 l m x i o ow n C D)) = true then
 (if cdec (RIxsi [AV.sl (some (2, o)) n 0 false, AV.fn (Fn.func 40) [AV.ptr (some (5, 0))]] (hFAO1 l m x i o ow n C D) (int i64 (intC RIxsi [AV.sl (some (2, o)) n 0 false, AV.fn (Fn.func 40) [AV.ptr (some (5, 0))]] (hFAO1 l m x i o ow n C D))) (hFAO2 l m x i o ow n C D)) = true then
 (if decide (intC RIxsi [AV.sl (some (2, o)) n 0 false, AV.fn (Fn.func 40) [AV.ptr (some (5, 0))]] (hFAO1 l m x i o ow n C D) ≥ 0) = true then
 (if decide (opq (hadF [int i64 m, AV.sl (some (0, 0)) l.length 0 false, AV.ptr (some (1, 0)), AV.sl (some (3, ow)) n 0 false, int i64 x, int i64 i, AV.str (List.map byteD [int u8 (u8.wrap (i64.wrap (97 + intV (List.map (int i64) l)[0 + i.toNat * 1]? % 9)))]), int i64 (-1), int i64 0] (hFAO0 l m x i o ow n C D)) ≥ 0) = false then
 (if decide ((n : Int) ≥ m) = false then
 none
 else none) else none)
 else (if decide ((n : Int) ≥ intV (some (int i64 m))) = true then
 (if decide (opq (hadF [int i64 m, AV.sl (some (0, 0)) l.length 0 false, AV.ptr (some (1, 0)), AV.sl (some (3, ow)) n 0 false, int i64 x, int i64 i, AV.str (List.map byteD [int u8 (u8.wrap (i64.wrap (97 + intV (List.map (int i64) l)[0 + i.toNat * 1]? % 9)))]), int i64 (-1), int i64 0] (hFAO0 l m x i o ow n C D)) ≥ 0) = false then
 (if decide ((n : Int) ≥ m) = false then
 none
 else none) else none)
 else (if (2 * (n + 1) + 200) * 24 ≤ 281474976710656 ∧ some 2 = some 2 ∧ n + 1 ≤ 70368744177664 then
 (if o + n * 2 ≤ C.length then
 (if 0 = 0 ∧ o + n * 2 = C.length ∧ (0 < 1 ∨ o = 0) ∧ 2 = 2 ∧ [AV.str (List.map byteD [int u8 (u8.wrap (i64.wrap (97 + intV (List.map (int i64) l)[0 + i.toNat * 1]? % 9)))]), int i64 i].all AV.isCell = true then
 (if decide (opq (hadF [int i64 m, AV.sl (some (0, 0)) l.length 0 false, AV.ptr (some (1, 0)), AV.sl (some (3, ow)) n 0 false, int i64 x, int i64 i, AV.str (List.map byteD [int u8 (u8.wrap (i64.wrap (97 + intV (List.map (int i64) l)[0 + i.toNat * 1]? % 9)))]), int i64 (-1), int i64 0] (hFAO0 l m x i o ow n C D)) ≥ 0) = false then
 (if decide ((n : Int) ≥ m) = false then
 (if (i64.wrap (intV (some (int i64 (i64.wrap (intV (some (int i64 x)) + 1)))) - 1) != x) = false then
 (if ow + n * 3 ≤ D.length then
 (if (2 * (0 + n) + 200) * 32 ≤ 281474976710656 ∧ some 3 = some 3 ∧ 0 + n ≤ 70368744177664 then
 (if 0 = 0 ∧ 0 = 0 ∧ (0 < n ∨ 0 = 0) ∧ 3 = 3 ∧ (List.take (n * 3) (List.drop ow D)).all AV.isCell = true then
 (if (2 * (0 + n + 1) + 200) * 32 ≤ 281474976710656 ∧ some 3 = some 3 ∧ 0 + n + 1 ≤ 70368744177664 then
 (if 0 + (0 + n) * 3 ≤ (List.take (n * 3) (List.drop ow D)).length then
 (if 0 = 0 ∧ 0 + (0 + n) * 3 = (List.take (n * 3) (List.drop ow D)).length ∧ (0 < 1 ∨ 0 = 0) ∧ 3 = 3 ∧ [AV.str (List.map byteD [int u8 (u8.wrap (i64.wrap (97 + intV (List.map (int i64) l)[0 + i.toNat * 1]? % 9)))]), int i64 i, int i64 x].all AV.isCell = true then
 (if decide ((((0 + n + 1) : Nat) : Int) > 0) = true then
 (if Int.ofNat 0 ≤ Int.ofNat 0 ∧ 0 < (((0 + n + 1) : Nat) : Int) then
 (if isIntV i64 (List.take ((0 + n) * 3) (List.take (n * 3) (List.drop ow D)) ++ [AV.str (List.map byteD [int u8 (u8.wrap (i64.wrap (97 + intV (List.map (int i64) l)[0 + i.toNat * 1]? % 9)))]), int i64 i, int i64 x])[2]? = true then
 (if cdec (AllR [AV.ptr (some (1, 0)), int i64 (-1)] (hFAO3 l m x i o ow n C D) (AV.sl (some (12, 0)) (opq (cntA (nOf (AV.sl (some (7, 0)) (n + 1) 0 false)) (-1))) 0 false) (hFAO4 l m x i o ow n C D)) = true then
 (if cdec (AllR [AV.ptr (some (1, 0)), int i64 1] (hFAO5 l m x i o ow n C D) (AV.sl (some (13, 0)) (opq (cntA (nOf (AV.sl (some (7, 0)) (n + 1) 0 false)) 1)) 0 false) (hFAO6 l m x i o ow n C D)) = true then
 (if ((((n + 1) : Nat) : Int) != (((0 + n + 1) : Nat) : Int)) = true then
 none
 else (if (intV (some (int i64 (i64.wrap (intV (some (int i64 x)) + 1)))) != i64.wrap (x + 1)) = true then
 none
 else (if (i64.wrap (intV (some (int i64 (i64.wrap (intV (some (int i64 x)) + 1)))) - (((n + 1) : Nat) : Int)) != intV (List.take ((0 + n) * 3) (List.take (n * 3) (List.drop ow D)) ++ [AV.str (List.map byteD [int u8 (u8.wrap (i64.wrap (97 + intV (List.map (int i64) l)[0 + i.toNat * 1]? % 9)))]), int i64 i, int i64 x])[2]?) = true then
 none
 else (if ((((opq (cntA (nOf (AV.sl (some (7, 0)) (n + 1) 0 false)) (-1))) : Nat) : Int) != (((0 + n + 1) : Nat) : Int)) = true then
 none
 else (if ((((opq (cntA (nOf (AV.sl (some (7, 0)) (n + 1) 0 false)) 1)) : Nat) : Int) != if false = true then if (((0 + n + 1) : Nat) : Int) > 1 then (((0 + n + 1) : Nat) : Int) else 1 else if (((0 + n + 1) : Nat) : Int) < 1 then (((0 + n + 1) : Nat) : Int) else 1) = false then
 (if cdec (LSays bFA2 14 [int i64 m, AV.sl (some (0, 0)) l.length 0 false, AV.ptr (some (1, 0)), AV.sl (some (11, 0)) (0 + n + 1) 0 false, int i64 (i64.wrap (x + 1)), int i64 i, AV.sl (some (12, 0)) (opq (cntA (nOf (AV.sl (some (7, 0)) (n + 1) 0 false)) (-1))) 0 false, AV.sl (some (13, 0)) (opq (cntA (nOf (AV.sl (some (7, 0)) (n + 1) 0 false)) 1)) 0 false, int i64 0] (hFAO7 l m x i o ow n C D) (AEx.exit 5) [int i64 m, AV.sl (some (0, 0)) l.length 0 false, AV.ptr (some (1, 0)), AV.sl (some (11, 0)) (0 + n + 1) 0 false, int i64 (i64.wrap (x + 1)), int i64 i, AV.sl (some (12, 0)) (opq (cntA (nOf (AV.sl (some (7, 0)) (n + 1) 0 false)) (-1))) 0 false, AV.sl (some (13, 0)) (opq (cntA (nOf (AV.sl (some (7, 0)) (n + 1) 0 false)) 1)) 0 false, int i64 (((nOf (AV.sl (some (11, 0)) (0 + n + 1) 0 false)) : Nat) : Int)] (hFAO7 l m x i o ow n C D)) = true then
 some ((AEx.norm, [int i64 m, AV.sl (some (0, 0)) l.length 0 false, AV.ptr (some (1, 0)), AV.sl (some (11, 0)) (0 + n + 1) 0 false, int i64 (i64.wrap (x + 1)), int i64 (i64.wrap (i + 1))], (hFAO7 l m x i o ow n C D)))
 else none) else none)))))
 else none) else none) else none) else none) else none) else none) else none) else none) else none) else none) else none) else none) else none) else none) else none) else none) else none)))
 else none) else none) else none) else none) else none) else none) else none) else none) := by
  kernel_rfl

noncomputable def hFAs0 (l : List Int) (m x i : Int) (o ow n : Nat) (C D : List AV) : AHeap := [cells (List.map (int i64) l) 1 Md.far none, cells [int i64 m, int i64 x, AV.sl (some (2, o)) n 0 false] 3 Md.own none, ABlk.cells C 2 Md.own none, ABlk.cells D 3 Md.own none]
theorem nfFAs (l : List Int) (m x i : Int) (o ow n : Nat) (C D : List AV) :
 qround Try.prog tFA 100 5 [(60, .bool false)] lsFA FA0 mFA0 (vFA0 m l 3 ow n x i) (hFAq l m x 2 o n C D) =
 (if decide (i < (l.length : Int)) = false then
 some ((AEx.exit 0, [int i64 m, AV.sl (some (0, 0)) l.length 0 false, AV.ptr (some (1, 0)), AV.sl (some (3, ow)) n 0 false, int i64 x, int i64 i], (hFAs0 l m x i o ow n C D)))
 else none) := by
  kernel_rfl


end Go.Proofs.Ytdildbadafdbgaa.L