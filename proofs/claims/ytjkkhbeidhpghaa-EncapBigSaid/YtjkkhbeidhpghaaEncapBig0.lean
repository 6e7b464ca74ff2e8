/- EncapBig's run. -/
import Derived.Test.YtjkkhbeidhpghaaEncapBigN
set_option autoImplicit false
set_option maxRecDepth 100000
set_option linter.unusedVariables false
set_option linter.unusedSimpArgs false
namespace Go.Proofs.Ytjkkhbeidhpghaa.L
open Go Go.Abs

theorem ebRunFF1 (pad k : Int) (b : UInt8) (M : List UInt8) (n N : Nat) (hk : pad % 5 = k) (hk2 : 0 ≤ k ∧ k ≤ 4) (hN0 : (N : Int) = 65515 + k - 2) (hn : N = 14 + 20 + (n + 6)) (hN1 : 65535 < N + 20) (hM : make4 (kSrc false 3) (kDst false) 17 (n + 6 : Nat) = b :: M) (hMl : M.length + 1 = 20)
    (hIn : ∀ (h : AHeap) (a : AV) (q : Nat), (bOk h a = true ∧ bOf h a = bigF false (b :: M) n) → h.length = q → InR [a, .agg (dAdr false 150), .agg (dAdr true 150), .agg (dAdr false 1)] h (.tup [slB q [], (.int .i64 9)]) [ownB []]) (hbl : (bigF false (b :: M) n).length = N) :
    ∃ h', Runs Try.prog 5 [.bool false, .bool false, .int .i64 pad] [] (.bool true) h' := by
  have hN : nB 65515 k = (N : Int) := by unfold nB; rw [wrapI64 (n := 65515 + k) (by omega), wrapI64 (by omega)]; omega
  have hNt : (nB 65515 k).toNat = N := by rw [hN]; omega
  have hbm : (b :: M).length = 20 := by simp only [List.length_cons]; omega
  have hT : List.take ((b :: M).length.min ((nB 65515 k).toNat - 14) * 1) (bys (b :: M)) = bys (b :: M) := by
    refine List.take_of_length_le ?_
    rw [bys_length, hNt, Nat.mul_one, hbm]; show 20 ≤ min 20 (N - 14); omega
  have hT2 : List.take ((b :: M).length.min (N - 14) * 1) (bys (b :: M)) = bys (b :: M) := by rw [← hNt]; exact hT
  have hT3 : List.take ((M.length + 1).min (N - 14) * 1) (bys (b :: M)) = bys (b :: M) := hT2
  have hw : IntKind.i64.wrap (IntKind.i64.wrap (nB 65515 k - 14) - 20) = ((n + 6 : Nat) : Int) := by rw [hN, wrapI64 (n := (N : Int) - 14) (by omega), wrapI64 (by omega)]; omega
  have hcells : putCells (putCells (putCells (putCells (putCells (zrep (nB 65515 k).toNat [b8 0]) 12 [b8 8]) 13 [b8 0]) 14 (List.take ((b :: M).length.min ((nB 65515 k).toNat - 14) * 1) (bys (b :: M)))) 38 [b8 0]) 39 [b8 8] = bys (bigF false (b :: M) n) := by
    rw [hT, hNt]
    exact (big_cells (v := true) (H := b :: M) (n := n) (N := N) (by rw [hbm]; omega) (by rw [hbm]) (by rw [hbm]) rfl).1
  have wS : adrWf (kSrc false 3) = true := by rw [kSrc_B]; exact adrB_wf rfl
  have wD : adrWf (kDst false) = true := by rw [kDst_B]; exact adrB_wf rfl
  have hmk : makes4 (kSrc false 3) (kDst false) ((n + 6 : Nat) : Int) := by rw [kSrc_B, kDst_B]; exact ⟨rfl, rfl, by omega, by omega⟩
  refine Runs.valT0 (tEBOk (b :: M) [] (.int .i64 9)) (F := 100) (n := 5) (pr := [(23, .int .i64 k), (105, .bool true), (108, .bool true), (113, .bool true)]) ?_
  refine (nfEBFF1 pad k b M _).trans ?_
  refine (if_pos ⟨rfl, hk⟩).trans ?_
  refine (if_pos (by rw [hN]; omega)).trans ?_
  refine (if_pos ⟨by decide, by rw [hNt]; omega⟩).trans ?_
  refine (if_pos ⟨by simp only [hNt, hT, hT2, hT3, zrep_one, putCells_len, bys_length, List.length_replicate, List.length_cons, List.length_nil]; omega, by simp⟩).trans ?_
  refine (if_pos ⟨by decide, by rw [hNt]; omega⟩).trans ?_
  refine (if_pos ⟨by simp only [hNt, hT, hT2, hT3, zrep_one, putCells_len, bys_length, List.length_replicate, List.length_cons, List.length_nil]; omega, by simp⟩).trans ?_
  refine (if_pos (cdec_true.2 (say4Mk (cs := kSrc false 3) (ds := kDst false) wS wD (by decide) (by rw [hw]; exact hmk) (by rw [hw]; exact hM) rfl))).trans ?_
  refine (if_pos ⟨by decide, by rw [hNt]; omega⟩).trans ?_
  refine (if_pos (by simp only [bys_length, Nat.zero_add, Nat.mul_one]; exact Nat.min_le_left _ _)).trans ?_
  refine (if_neg (by rw [hT]; simp)).trans ?_
  refine (if_pos (by rw [hNt]; omega)).trans ?_
  refine (if_pos ⟨by simp only [hNt, hT, hT2, hT3, zrep_one, putCells_len, bys_length, List.length_replicate, List.length_cons, List.length_nil]; omega, by rw [hT]; simp⟩).trans ?_
  refine (if_pos ⟨by decide, by rw [hNt]; omega⟩).trans ?_
  refine (if_pos ⟨by simp only [hNt, hT, hT2, hT3, zrep_one, putCells_len, bys_length, List.length_replicate, List.length_cons, List.length_nil]; omega, by simp⟩).trans ?_
  refine (if_pos ⟨by decide, by rw [hNt]; omega⟩).trans ?_
  refine (if_pos ⟨by simp only [hNt, hT, hT2, hT3, zrep_one, putCells_len, bys_length, List.length_replicate, List.length_cons, List.length_nil]; omega, by simp⟩).trans ?_
  refine (if_pos (cdec_true.2 (hIn _ _ _ (bOk_row rfl hcells (by rw [hNt]; omega)) rfl))).trans ?_
  refine (if_pos (decide_eq_true (by rw [hN, wrapI64 (by omega)]; omega))).trans ?_
  rfl

theorem ebRunFF2 (pad k : Int) (b : UInt8) (M O : List UInt8) (n N : Nat) (hk : pad % 5 = k) (hk2 : 0 ≤ k ∧ k ≤ 4) (hN0 : (N : Int) = 65515 + k - 2) (hn : N = 14 + 20 + (n + 6)) (hN1 : N + 20 ≤ 65535) (hM : make4 (kSrc false 3) (kDst false) 17 (n + 6 : Nat) = b :: M) (hMl : M.length + 1 = 20) (hO : O.length = N + 20)
    (hIn : ∀ (h : AHeap) (a : AV) (q : Nat), (bOk h a = true ∧ bOf h a = bigF false (b :: M) n) → h.length = q → InR [a, .agg (dAdr false 150), .agg (dAdr true 150), .agg (dAdr false 1)] h (.tup [slB q O, (.int .i64 0)]) [ownB O]) (hbl : (bigF false (b :: M) n).length = N) :
    ∃ h', Runs Try.prog 5 [.bool false, .bool false, .int .i64 pad] [] (.bool true) h' := by
  have hN : nB 65515 k = (N : Int) := by unfold nB; rw [wrapI64 (n := 65515 + k) (by omega), wrapI64 (by omega)]; omega
  have hNt : (nB 65515 k).toNat = N := by rw [hN]; omega
  have hbm : (b :: M).length = 20 := by simp only [List.length_cons]; omega
  have hT : List.take ((b :: M).length.min ((nB 65515 k).toNat - 14) * 1) (bys (b :: M)) = bys (b :: M) := by
    refine List.take_of_length_le ?_
    rw [bys_length, hNt, Nat.mul_one, hbm]; show 20 ≤ min 20 (N - 14); omega
  have hT2 : List.take ((b :: M).length.min (N - 14) * 1) (bys (b :: M)) = bys (b :: M) := by rw [← hNt]; exact hT
  have hT3 : List.take ((M.length + 1).min (N - 14) * 1) (bys (b :: M)) = bys (b :: M) := hT2
  have hw : IntKind.i64.wrap (IntKind.i64.wrap (nB 65515 k - 14) - 20) = ((n + 6 : Nat) : Int) := by rw [hN, wrapI64 (n := (N : Int) - 14) (by omega), wrapI64 (by omega)]; omega
  have hcells : putCells (putCells (putCells (putCells (putCells (zrep (nB 65515 k).toNat [b8 0]) 12 [b8 8]) 13 [b8 0]) 14 (List.take ((b :: M).length.min ((nB 65515 k).toNat - 14) * 1) (bys (b :: M)))) 38 [b8 0]) 39 [b8 8] = bys (bigF false (b :: M) n) := by
    rw [hT, hNt]
    exact (big_cells (v := true) (H := b :: M) (n := n) (N := N) (by rw [hbm]; omega) (by rw [hbm]) (by rw [hbm]) rfl).1
  have wS : adrWf (kSrc false 3) = true := by rw [kSrc_B]; exact adrB_wf rfl
  have wD : adrWf (kDst false) = true := by rw [kDst_B]; exact adrB_wf rfl
  have hmk : makes4 (kSrc false 3) (kDst false) ((n + 6 : Nat) : Int) := by rw [kSrc_B, kDst_B]; exact ⟨rfl, rfl, by omega, by omega⟩
  refine Runs.valT0 (tEBOk (b :: M) O (.int .i64 0)) (F := 100) (n := 5) (pr := [(23, .int .i64 k), (105, .bool false), (118, .bool true), (126, .bool true)]) ?_
  refine (nfEBFF2 pad k b M O _).trans ?_
  refine (if_pos ⟨rfl, hk⟩).trans ?_
  refine (if_pos (by rw [hN]; omega)).trans ?_
  refine (if_pos ⟨by decide, by rw [hNt]; omega⟩).trans ?_
  refine (if_pos ⟨by simp only [hNt, hT, hT2, hT3, zrep_one, putCells_len, bys_length, List.length_replicate, List.length_cons, List.length_nil]; omega, by simp⟩).trans ?_
  refine (if_pos ⟨by decide, by rw [hNt]; omega⟩).trans ?_
  refine (if_pos ⟨by simp only [hNt, hT, hT2, hT3, zrep_one, putCells_len, bys_length, List.length_replicate, List.length_cons, List.length_nil]; omega, by simp⟩).trans ?_
  refine (if_pos (cdec_true.2 (say4Mk (cs := kSrc false 3) (ds := kDst false) wS wD (by decide) (by rw [hw]; exact hmk) (by rw [hw]; exact hM) rfl))).trans ?_
  refine (if_pos ⟨by decide, by rw [hNt]; omega⟩).trans ?_
  refine (if_pos (by simp only [bys_length, Nat.zero_add, Nat.mul_one]; exact Nat.min_le_left _ _)).trans ?_
  refine (if_neg (by rw [hT]; simp)).trans ?_
  refine (if_pos (by rw [hNt]; omega)).trans ?_
  refine (if_pos ⟨by simp only [hNt, hT, hT2, hT3, zrep_one, putCells_len, bys_length, List.length_replicate, List.length_cons, List.length_nil]; omega, by rw [hT]; simp⟩).trans ?_
  refine (if_pos ⟨by decide, by rw [hNt]; omega⟩).trans ?_
  refine (if_pos ⟨by simp only [hNt, hT, hT2, hT3, zrep_one, putCells_len, bys_length, List.length_replicate, List.length_cons, List.length_nil]; omega, by simp⟩).trans ?_
  refine (if_pos ⟨by decide, by rw [hNt]; omega⟩).trans ?_
  refine (if_pos ⟨by simp only [hNt, hT, hT2, hT3, zrep_one, putCells_len, bys_length, List.length_replicate, List.length_cons, List.length_nil]; omega, by simp⟩).trans ?_
  refine (if_pos (cdec_true.2 (hIn _ _ _ (bOk_row rfl hcells (by rw [hNt]; omega)) rfl))).trans ?_
  refine (if_pos (decide_eq_false (by rw [hN, wrapI64 (by omega)]; omega))).trans ?_
  refine (if_pos (by rw [hN, wrapI64 (by omega), hO]; simp)).trans ?_
  rfl

theorem ebRunFT1 (pad k : Int) (b : UInt8) (M : List UInt8) (n N : Nat) (hk : pad % 5 = k) (hk2 : 0 ≤ k ∧ k ≤ 4) (hN0 : (N : Int) = 65495 + k - 2) (hn : N = 14 + 20 + (n + 6)) (hN1 : 65535 < N + 40) (hM : make4 (kSrc false 3) (kDst false) 17 (n + 6 : Nat) = b :: M) (hMl : M.length + 1 = 20)
    (hIn : ∀ (h : AHeap) (a : AV) (q : Nat), (bOk h a = true ∧ bOf h a = bigF false (b :: M) n) → h.length = q → InR [a, .agg (dAdr false 150), .agg (dAdr true 150), .agg (dAdr true 1)] h (.tup [slB q [], (.int .i64 9)]) [ownB []]) (hbl : (bigF false (b :: M) n).length = N) :
    ∃ h', Runs Try.prog 5 [.bool false, .bool true, .int .i64 pad] [] (.bool true) h' := by
  have hN : nB 65495 k = (N : Int) := by unfold nB; rw [wrapI64 (n := 65495 + k) (by omega), wrapI64 (by omega)]; omega
  have hNt : (nB 65495 k).toNat = N := by rw [hN]; omega
  have hbm : (b :: M).length = 20 := by simp only [List.length_cons]; omega
  have hT : List.take ((b :: M).length.min ((nB 65495 k).toNat - 14) * 1) (bys (b :: M)) = bys (b :: M) := by
    refine List.take_of_length_le ?_
    rw [bys_length, hNt, Nat.mul_one, hbm]; show 20 ≤ min 20 (N - 14); omega
  have hT2 : List.take ((b :: M).length.min (N - 14) * 1) (bys (b :: M)) = bys (b :: M) := by rw [← hNt]; exact hT
  have hT3 : List.take ((M.length + 1).min (N - 14) * 1) (bys (b :: M)) = bys (b :: M) := hT2
  have hw : IntKind.i64.wrap (IntKind.i64.wrap (nB 65495 k - 14) - 20) = ((n + 6 : Nat) : Int) := by rw [hN, wrapI64 (n := (N : Int) - 14) (by omega), wrapI64 (by omega)]; omega
  have hcells : putCells (putCells (putCells (putCells (putCells (zrep (nB 65495 k).toNat [b8 0]) 12 [b8 8]) 13 [b8 0]) 14 (List.take ((b :: M).length.min ((nB 65495 k).toNat - 14) * 1) (bys (b :: M)))) 38 [b8 0]) 39 [b8 8] = bys (bigF false (b :: M) n) := by
    rw [hT, hNt]
    exact (big_cells (v := true) (H := b :: M) (n := n) (N := N) (by rw [hbm]; omega) (by rw [hbm]) (by rw [hbm]) rfl).1
  have wS : adrWf (kSrc false 3) = true := by rw [kSrc_B]; exact adrB_wf rfl
  have wD : adrWf (kDst false) = true := by rw [kDst_B]; exact adrB_wf rfl
  have hmk : makes4 (kSrc false 3) (kDst false) ((n + 6 : Nat) : Int) := by rw [kSrc_B, kDst_B]; exact ⟨rfl, rfl, by omega, by omega⟩
  refine Runs.valT0 (tEBOk (b :: M) [] (.int .i64 9)) (F := 100) (n := 5) (pr := [(23, .int .i64 k), (105, .bool true), (108, .bool true), (113, .bool true)]) ?_
  refine (nfEBFT1 pad k b M _).trans ?_
  refine (if_pos ⟨rfl, hk⟩).trans ?_
  refine (if_pos (by rw [hN]; omega)).trans ?_
  refine (if_pos ⟨by decide, by rw [hNt]; omega⟩).trans ?_
  refine (if_pos ⟨by simp only [hNt, hT, hT2, hT3, zrep_one, putCells_len, bys_length, List.length_replicate, List.length_cons, List.length_nil]; omega, by simp⟩).trans ?_
  refine (if_pos ⟨by decide, by rw [hNt]; omega⟩).trans ?_
  refine (if_pos ⟨by simp only [hNt, hT, hT2, hT3, zrep_one, putCells_len, bys_length, List.length_replicate, List.length_cons, List.length_nil]; omega, by simp⟩).trans ?_
  refine (if_pos (cdec_true.2 (say4Mk (cs := kSrc false 3) (ds := kDst false) wS wD (by decide) (by rw [hw]; exact hmk) (by rw [hw]; exact hM) rfl))).trans ?_
  refine (if_pos ⟨by decide, by rw [hNt]; omega⟩).trans ?_
  refine (if_pos (by simp only [bys_length, Nat.zero_add, Nat.mul_one]; exact Nat.min_le_left _ _)).trans ?_
  refine (if_neg (by rw [hT]; simp)).trans ?_
  refine (if_pos (by rw [hNt]; omega)).trans ?_
  refine (if_pos ⟨by simp only [hNt, hT, hT2, hT3, zrep_one, putCells_len, bys_length, List.length_replicate, List.length_cons, List.length_nil]; omega, by rw [hT]; simp⟩).trans ?_
  refine (if_pos ⟨by decide, by rw [hNt]; omega⟩).trans ?_
  refine (if_pos ⟨by simp only [hNt, hT, hT2, hT3, zrep_one, putCells_len, bys_length, List.length_replicate, List.length_cons, List.length_nil]; omega, by simp⟩).trans ?_
  refine (if_pos ⟨by decide, by rw [hNt]; omega⟩).trans ?_
  refine (if_pos ⟨by simp only [hNt, hT, hT2, hT3, zrep_one, putCells_len, bys_length, List.length_replicate, List.length_cons, List.length_nil]; omega, by simp⟩).trans ?_
  refine (if_pos (cdec_true.2 (hIn _ _ _ (bOk_row rfl hcells (by rw [hNt]; omega)) rfl))).trans ?_
  refine (if_pos (decide_eq_true (by rw [hN, wrapI64 (by omega)]; omega))).trans ?_
  rfl

theorem ebRunFT2 (pad k : Int) (b : UInt8) (M O : List UInt8) (n N : Nat) (hk : pad % 5 = k) (hk2 : 0 ≤ k ∧ k ≤ 4) (hN0 : (N : Int) = 65495 + k - 2) (hn : N = 14 + 20 + (n + 6)) (hN1 : N + 40 ≤ 65535) (hM : make4 (kSrc false 3) (kDst false) 17 (n + 6 : Nat) = b :: M) (hMl : M.length + 1 = 20) (hO : O.length = N + 40)
    (hIn : ∀ (h : AHeap) (a : AV) (q : Nat), (bOk h a = true ∧ bOf h a = bigF false (b :: M) n) → h.length = q → InR [a, .agg (dAdr false 150), .agg (dAdr true 150), .agg (dAdr true 1)] h (.tup [slB q O, (.int .i64 0)]) [ownB O]) (hbl : (bigF false (b :: M) n).length = N) :
    ∃ h', Runs Try.prog 5 [.bool false, .bool true, .int .i64 pad] [] (.bool true) h' := by
  have hN : nB 65495 k = (N : Int) := by unfold nB; rw [wrapI64 (n := 65495 + k) (by omega), wrapI64 (by omega)]; omega
  have hNt : (nB 65495 k).toNat = N := by rw [hN]; omega
  have hbm : (b :: M).length = 20 := by simp only [List.length_cons]; omega
  have hT : List.take ((b :: M).length.min ((nB 65495 k).toNat - 14) * 1) (bys (b :: M)) = bys (b :: M) := by
    refine List.take_of_length_le ?_
    rw [bys_length, hNt, Nat.mul_one, hbm]; show 20 ≤ min 20 (N - 14); omega
  have hT2 : List.take ((b :: M).length.min (N - 14) * 1) (bys (b :: M)) = bys (b :: M) := by rw [← hNt]; exact hT
  have hT3 : List.take ((M.length + 1).min (N - 14) * 1) (bys (b :: M)) = bys (b :: M) := hT2
  have hw : IntKind.i64.wrap (IntKind.i64.wrap (nB 65495 k - 14) - 20) = ((n + 6 : Nat) : Int) := by rw [hN, wrapI64 (n := (N : Int) - 14) (by omega), wrapI64 (by omega)]; omega
  have hcells : putCells (putCells (putCells (putCells (putCells (zrep (nB 65495 k).toNat [b8 0]) 12 [b8 8]) 13 [b8 0]) 14 (List.take ((b :: M).length.min ((nB 65495 k).toNat - 14) * 1) (bys (b :: M)))) 38 [b8 0]) 39 [b8 8] = bys (bigF false (b :: M) n) := by
    rw [hT, hNt]
    exact (big_cells (v := true) (H := b :: M) (n := n) (N := N) (by rw [hbm]; omega) (by rw [hbm]) (by rw [hbm]) rfl).1
  have wS : adrWf (kSrc false 3) = true := by rw [kSrc_B]; exact adrB_wf rfl
  have wD : adrWf (kDst false) = true := by rw [kDst_B]; exact adrB_wf rfl
  have hmk : makes4 (kSrc false 3) (kDst false) ((n + 6 : Nat) : Int) := by rw [kSrc_B, kDst_B]; exact ⟨rfl, rfl, by omega, by omega⟩
  refine Runs.valT0 (tEBOk (b :: M) O (.int .i64 0)) (F := 100) (n := 5) (pr := [(23, .int .i64 k), (105, .bool false), (118, .bool true), (126, .bool true)]) ?_
  refine (nfEBFT2 pad k b M O _).trans ?_
  refine (if_pos ⟨rfl, hk⟩).trans ?_
  refine (if_pos (by rw [hN]; omega)).trans ?_
  refine (if_pos ⟨by decide, by rw [hNt]; omega⟩).trans ?_
  refine (if_pos ⟨by simp only [hNt, hT, hT2, hT3, zrep_one, putCells_len, bys_length, List.length_replicate, List.length_cons, List.length_nil]; omega, by simp⟩).trans ?_
  refine (if_pos ⟨by decide, by rw [hNt]; omega⟩).trans ?_
  refine (if_pos ⟨by simp only [hNt, hT, hT2, hT3, zrep_one, putCells_len, bys_length, List.length_replicate, List.length_cons, List.length_nil]; omega, by simp⟩).trans ?_
  refine (if_pos (cdec_true.2 (say4Mk (cs := kSrc false 3) (ds := kDst false) wS wD (by decide) (by rw [hw]; exact hmk) (by rw [hw]; exact hM) rfl))).trans ?_
  refine (if_pos ⟨by decide, by rw [hNt]; omega⟩).trans ?_
  refine (if_pos (by simp only [bys_length, Nat.zero_add, Nat.mul_one]; exact Nat.min_le_left _ _)).trans ?_
  refine (if_neg (by rw [hT]; simp)).trans ?_
  refine (if_pos (by rw [hNt]; omega)).trans ?_
  refine (if_pos ⟨by simp only [hNt, hT, hT2, hT3, zrep_one, putCells_len, bys_length, List.length_replicate, List.length_cons, List.length_nil]; omega, by rw [hT]; simp⟩).trans ?_
  refine (if_pos ⟨by decide, by rw [hNt]; omega⟩).trans ?_
  refine (if_pos ⟨by simp only [hNt, hT, hT2, hT3, zrep_one, putCells_len, bys_length, List.length_replicate, List.length_cons, List.length_nil]; omega, by simp⟩).trans ?_
  refine (if_pos ⟨by decide, by rw [hNt]; omega⟩).trans ?_
  refine (if_pos ⟨by simp only [hNt, hT, hT2, hT3, zrep_one, putCells_len, bys_length, List.length_replicate, List.length_cons, List.length_nil]; omega, by simp⟩).trans ?_
  refine (if_pos (cdec_true.2 (hIn _ _ _ (bOk_row rfl hcells (by rw [hNt]; omega)) rfl))).trans ?_
  refine (if_pos (decide_eq_false (by rw [hN, wrapI64 (by omega)]; omega))).trans ?_
  refine (if_pos (by rw [hN, wrapI64 (by omega), hO]; simp)).trans ?_
  rfl

theorem ebRunTF1 (pad k : Int) (b : UInt8) (M : List UInt8) (n N : Nat) (hk : pad % 5 = k) (hk2 : 0 ≤ k ∧ k ≤ 4) (hN0 : (N : Int) = 65515 + k - 2) (hn : N = 14 + 40 + (n + 6)) (hN1 : 65535 < N + 20) (hM : make6 (kSrc true 3) (kDst true) 17 (n + 6 : Nat) = b :: M) (hMl : M.length + 1 = 40)
    (hIn : ∀ (h : AHeap) (a : AV) (q : Nat), (bOk h a = true ∧ bOf h a = bigF true (b :: M) n) → h.length = q → InR [a, .agg (dAdr false 150), .agg (dAdr true 150), .agg (dAdr false 1)] h (.tup [slB q [], (.int .i64 9)]) [ownB []]) (hbl : (bigF true (b :: M) n).length = N) :
    ∃ h', Runs Try.prog 5 [.bool true, .bool false, .int .i64 pad] [] (.bool true) h' := by
  have hN : nB 65515 k = (N : Int) := by unfold nB; rw [wrapI64 (n := 65515 + k) (by omega), wrapI64 (by omega)]; omega
  have hNt : (nB 65515 k).toNat = N := by rw [hN]; omega
  have hbm : (b :: M).length = 40 := by simp only [List.length_cons]; omega
  have hT : List.take ((b :: M).length.min ((nB 65515 k).toNat - 14) * 1) (bys (b :: M)) = bys (b :: M) := by
    refine List.take_of_length_le ?_
    rw [bys_length, hNt, Nat.mul_one, hbm]; show 40 ≤ min 40 (N - 14); omega
  have hT2 : List.take ((b :: M).length.min (N - 14) * 1) (bys (b :: M)) = bys (b :: M) := by rw [← hNt]; exact hT
  have hT3 : List.take ((M.length + 1).min (N - 14) * 1) (bys (b :: M)) = bys (b :: M) := hT2
  have hw : IntKind.i64.wrap (IntKind.i64.wrap (nB 65515 k - 14) - 40) = ((n + 6 : Nat) : Int) := by rw [hN, wrapI64 (n := (N : Int) - 14) (by omega), wrapI64 (by omega)]; omega
  have hcells : putCells (putCells (putCells (putCells (putCells (putCells (putCells (zrep (nB 65515 k).toNat [b8 0]) 12 [b8 8]) 13 [b8 0]) 12 [b8 134]) 13 [b8 221]) 14 (List.take ((b :: M).length.min ((nB 65515 k).toNat - 14) * 1) (bys (b :: M)))) 58 [b8 0]) 59 [b8 8] = bys (bigF true (b :: M) n) := by
    rw [hT, hNt]
    exact (big_cells (v := true) (H := b :: M) (n := n) (N := N) (by rw [hbm]; omega) (by rw [hbm]) (by rw [hbm]) rfl).2
  have wS : adrWf (kSrc true 3) = true := by rw [kSrc_B]; exact adrB_wf rfl
  have wD : adrWf (kDst true) = true := by rw [kDst_B]; exact adrB_wf rfl
  have hmk : makes6 (kSrc true 3) (kDst true) ((n + 6 : Nat) : Int) := by rw [kSrc_B, kDst_B]; exact ⟨rfl, rfl, by omega, by omega⟩
  refine Runs.valT0 (tEBOk (b :: M) [] (.int .i64 9)) (F := 100) (n := 5) (pr := [(23, .int .i64 k), (105, .bool true), (108, .bool true), (113, .bool true)]) ?_
  refine (nfEBTF1 pad k b M _).trans ?_
  refine (if_pos ⟨rfl, hk⟩).trans ?_
  refine (if_pos (by rw [hN]; omega)).trans ?_
  refine (if_pos ⟨by decide, by rw [hNt]; omega⟩).trans ?_
  refine (if_pos ⟨by simp only [hNt, hT, hT2, hT3, zrep_one, putCells_len, bys_length, List.length_replicate, List.length_cons, List.length_nil]; omega, by simp⟩).trans ?_
  refine (if_pos ⟨by decide, by rw [hNt]; omega⟩).trans ?_
  refine (if_pos ⟨by simp only [hNt, hT, hT2, hT3, zrep_one, putCells_len, bys_length, List.length_replicate, List.length_cons, List.length_nil]; omega, by simp⟩).trans ?_
  refine (if_pos ⟨by decide, by rw [hNt]; omega⟩).trans ?_
  refine (if_pos ⟨by simp only [hNt, hT, hT2, hT3, zrep_one, putCells_len, bys_length, List.length_replicate, List.length_cons, List.length_nil]; omega, by simp⟩).trans ?_
  refine (if_pos ⟨by decide, by rw [hNt]; omega⟩).trans ?_
  refine (if_pos ⟨by simp only [hNt, hT, hT2, hT3, zrep_one, putCells_len, bys_length, List.length_replicate, List.length_cons, List.length_nil]; omega, by simp⟩).trans ?_
  refine (if_pos (cdec_true.2 (say6Mk (cs := kSrc true 3) (ds := kDst true) wS wD (by decide) (by rw [hw]; exact hmk) (by rw [hw]; exact hM) rfl))).trans ?_
  refine (if_pos ⟨by decide, by rw [hNt]; omega⟩).trans ?_
  refine (if_pos (by simp only [bys_length, Nat.zero_add, Nat.mul_one]; exact Nat.min_le_left _ _)).trans ?_
  refine (if_neg (by rw [hT]; simp)).trans ?_
  refine (if_pos (by rw [hNt]; omega)).trans ?_
  refine (if_pos ⟨by simp only [hNt, hT, hT2, hT3, zrep_one, putCells_len, bys_length, List.length_replicate, List.length_cons, List.length_nil]; omega, by rw [hT]; simp⟩).trans ?_
  refine (if_pos ⟨by decide, by rw [hNt]; omega⟩).trans ?_
  refine (if_pos ⟨by simp only [hNt, hT, hT2, hT3, zrep_one, putCells_len, bys_length, List.length_replicate, List.length_cons, List.length_nil]; omega, by simp⟩).trans ?_
  refine (if_pos ⟨by decide, by rw [hNt]; omega⟩).trans ?_
  refine (if_pos ⟨by simp only [hNt, hT, hT2, hT3, zrep_one, putCells_len, bys_length, List.length_replicate, List.length_cons, List.length_nil]; omega, by simp⟩).trans ?_
  refine (if_pos (cdec_true.2 (hIn _ _ _ (bOk_row rfl hcells (by rw [hNt]; omega)) rfl))).trans ?_
  refine (if_pos (decide_eq_true (by rw [hN, wrapI64 (by omega)]; omega))).trans ?_
  rfl

theorem ebRunTF2 (pad k : Int) (b : UInt8) (M O : List UInt8) (n N : Nat) (hk : pad % 5 = k) (hk2 : 0 ≤ k ∧ k ≤ 4) (hN0 : (N : Int) = 65515 + k - 2) (hn : N = 14 + 40 + (n + 6)) (hN1 : N + 20 ≤ 65535) (hM : make6 (kSrc true 3) (kDst true) 17 (n + 6 : Nat) = b :: M) (hMl : M.length + 1 = 40) (hO : O.length = N + 20)
    (hIn : ∀ (h : AHeap) (a : AV) (q : Nat), (bOk h a = true ∧ bOf h a = bigF true (b :: M) n) → h.length = q → InR [a, .agg (dAdr false 150), .agg (dAdr true 150), .agg (dAdr false 1)] h (.tup [slB q O, (.int .i64 0)]) [ownB O]) (hbl : (bigF true (b :: M) n).length = N) :
    ∃ h', Runs Try.prog 5 [.bool true, .bool false, .int .i64 pad] [] (.bool true) h' := by
  have hN : nB 65515 k = (N : Int) := by unfold nB; rw [wrapI64 (n := 65515 + k) (by omega), wrapI64 (by omega)]; omega
  have hNt : (nB 65515 k).toNat = N := by rw [hN]; omega
  have hbm : (b :: M).length = 40 := by simp only [List.length_cons]; omega
  have hT : List.take ((b :: M).length.min ((nB 65515 k).toNat - 14) * 1) (bys (b :: M)) = bys (b :: M) := by
    refine List.take_of_length_le ?_
    rw [bys_length, hNt, Nat.mul_one, hbm]; show 40 ≤ min 40 (N - 14); omega
  have hT2 : List.take ((b :: M).length.min (N - 14) * 1) (bys (b :: M)) = bys (b :: M) := by rw [← hNt]; exact hT
  have hT3 : List.take ((M.length + 1).min (N - 14) * 1) (bys (b :: M)) = bys (b :: M) := hT2
  have hw : IntKind.i64.wrap (IntKind.i64.wrap (nB 65515 k - 14) - 40) = ((n + 6 : Nat) : Int) := by rw [hN, wrapI64 (n := (N : Int) - 14) (by omega), wrapI64 (by omega)]; omega
  have hcells : putCells (putCells (putCells (putCells (putCells (putCells (putCells (zrep (nB 65515 k).toNat [b8 0]) 12 [b8 8]) 13 [b8 0]) 12 [b8 134]) 13 [b8 221]) 14 (List.take ((b :: M).length.min ((nB 65515 k).toNat - 14) * 1) (bys (b :: M)))) 58 [b8 0]) 59 [b8 8] = bys (bigF true (b :: M) n) := by
    rw [hT, hNt]
    exact (big_cells (v := true) (H := b :: M) (n := n) (N := N) (by rw [hbm]; omega) (by rw [hbm]) (by rw [hbm]) rfl).2
  have wS : adrWf (kSrc true 3) = true := by rw [kSrc_B]; exact adrB_wf rfl
  have wD : adrWf (kDst true) = true := by rw [kDst_B]; exact adrB_wf rfl
  have hmk : makes6 (kSrc true 3) (kDst true) ((n + 6 : Nat) : Int) := by rw [kSrc_B, kDst_B]; exact ⟨rfl, rfl, by omega, by omega⟩
  refine Runs.valT0 (tEBOk (b :: M) O (.int .i64 0)) (F := 100) (n := 5) (pr := [(23, .int .i64 k), (105, .bool false), (118, .bool true), (126, .bool true)]) ?_
  refine (nfEBTF2 pad k b M O _).trans ?_
  refine (if_pos ⟨rfl, hk⟩).trans ?_
  refine (if_pos (by rw [hN]; omega)).trans ?_
  refine (if_pos ⟨by decide, by rw [hNt]; omega⟩).trans ?_
  refine (if_pos ⟨by simp only [hNt, hT, hT2, hT3, zrep_one, putCells_len, bys_length, List.length_replicate, List.length_cons, List.length_nil]; omega, by simp⟩).trans ?_
  refine (if_pos ⟨by decide, by rw [hNt]; omega⟩).trans ?_
  refine (if_pos ⟨by simp only [hNt, hT, hT2, hT3, zrep_one, putCells_len, bys_length, List.length_replicate, List.length_cons, List.length_nil]; omega, by simp⟩).trans ?_
  refine (if_pos ⟨by decide, by rw [hNt]; omega⟩).trans ?_
  refine (if_pos ⟨by simp only [hNt, hT, hT2, hT3, zrep_one, putCells_len, bys_length, List.length_replicate, List.length_cons, List.length_nil]; omega, by simp⟩).trans ?_
  refine (if_pos ⟨by decide, by rw [hNt]; omega⟩).trans ?_
  refine (if_pos ⟨by simp only [hNt, hT, hT2, hT3, zrep_one, putCells_len, bys_length, List.length_replicate, List.length_cons, List.length_nil]; omega, by simp⟩).trans ?_
  refine (if_pos (cdec_true.2 (say6Mk (cs := kSrc true 3) (ds := kDst true) wS wD (by decide) (by rw [hw]; exact hmk) (by rw [hw]; exact hM) rfl))).trans ?_
  refine (if_pos ⟨by decide, by rw [hNt]; omega⟩).trans ?_
  refine (if_pos (by simp only [bys_length, Nat.zero_add, Nat.mul_one]; exact Nat.min_le_left _ _)).trans ?_
  refine (if_neg (by rw [hT]; simp)).trans ?_
  refine (if_pos (by rw [hNt]; omega)).trans ?_
  refine (if_pos ⟨by simp only [hNt, hT, hT2, hT3, zrep_one, putCells_len, bys_length, List.length_replicate, List.length_cons, List.length_nil]; omega, by rw [hT]; simp⟩).trans ?_
  refine (if_pos ⟨by decide, by rw [hNt]; omega⟩).trans ?_
  refine (if_pos ⟨by simp only [hNt, hT, hT2, hT3, zrep_one, putCells_len, bys_length, List.length_replicate, List.length_cons, List.length_nil]; omega, by simp⟩).trans ?_
  refine (if_pos ⟨by decide, by rw [hNt]; omega⟩).trans ?_
  refine (if_pos ⟨by simp only [hNt, hT, hT2, hT3, zrep_one, putCells_len, bys_length, List.length_replicate, List.length_cons, List.length_nil]; omega, by simp⟩).trans ?_
  refine (if_pos (cdec_true.2 (hIn _ _ _ (bOk_row rfl hcells (by rw [hNt]; omega)) rfl))).trans ?_
  refine (if_pos (decide_eq_false (by rw [hN, wrapI64 (by omega)]; omega))).trans ?_
  refine (if_pos (by rw [hN, wrapI64 (by omega), hO]; simp)).trans ?_
  rfl

theorem ebRunTT1 (pad k : Int) (b : UInt8) (M : List UInt8) (n N : Nat) (hk : pad % 5 = k) (hk2 : 0 ≤ k ∧ k ≤ 4) (hN0 : (N : Int) = 65495 + k - 2) (hn : N = 14 + 40 + (n + 6)) (hN1 : 65535 < N + 40) (hM : make6 (kSrc true 3) (kDst true) 17 (n + 6 : Nat) = b :: M) (hMl : M.length + 1 = 40)
    (hIn : ∀ (h : AHeap) (a : AV) (q : Nat), (bOk h a = true ∧ bOf h a = bigF true (b :: M) n) → h.length = q → InR [a, .agg (dAdr false 150), .agg (dAdr true 150), .agg (dAdr true 1)] h (.tup [slB q [], (.int .i64 9)]) [ownB []]) (hbl : (bigF true (b :: M) n).length = N) :
    ∃ h', Runs Try.prog 5 [.bool true, .bool true, .int .i64 pad] [] (.bool true) h' := by
  have hN : nB 65495 k = (N : Int) := by unfold nB; rw [wrapI64 (n := 65495 + k) (by omega), wrapI64 (by omega)]; omega
  have hNt : (nB 65495 k).toNat = N := by rw [hN]; omega
  have hbm : (b :: M).length = 40 := by simp only [List.length_cons]; omega
  have hT : List.take ((b :: M).length.min ((nB 65495 k).toNat - 14) * 1) (bys (b :: M)) = bys (b :: M) := by
    refine List.take_of_length_le ?_
    rw [bys_length, hNt, Nat.mul_one, hbm]; show 40 ≤ min 40 (N - 14); omega
  have hT2 : List.take ((b :: M).length.min (N - 14) * 1) (bys (b :: M)) = bys (b :: M) := by rw [← hNt]; exact hT
  have hT3 : List.take ((M.length + 1).min (N - 14) * 1) (bys (b :: M)) = bys (b :: M) := hT2
  have hw : IntKind.i64.wrap (IntKind.i64.wrap (nB 65495 k - 14) - 40) = ((n + 6 : Nat) : Int) := by rw [hN, wrapI64 (n := (N : Int) - 14) (by omega), wrapI64 (by omega)]; omega
  have hcells : putCells (putCells (putCells (putCells (putCells (putCells (putCells (zrep (nB 65495 k).toNat [b8 0]) 12 [b8 8]) 13 [b8 0]) 12 [b8 134]) 13 [b8 221]) 14 (List.take ((b :: M).length.min ((nB 65495 k).toNat - 14) * 1) (bys (b :: M)))) 58 [b8 0]) 59 [b8 8] = bys (bigF true (b :: M) n) := by
    rw [hT, hNt]
    exact (big_cells (v := true) (H := b :: M) (n := n) (N := N) (by rw [hbm]; omega) (by rw [hbm]) (by rw [hbm]) rfl).2
  have wS : adrWf (kSrc true 3) = true := by rw [kSrc_B]; exact adrB_wf rfl
  have wD : adrWf (kDst true) = true := by rw [kDst_B]; exact adrB_wf rfl
  have hmk : makes6 (kSrc true 3) (kDst true) ((n + 6 : Nat) : Int) := by rw [kSrc_B, kDst_B]; exact ⟨rfl, rfl, by omega, by omega⟩
  refine Runs.valT0 (tEBOk (b :: M) [] (.int .i64 9)) (F := 100) (n := 5) (pr := [(23, .int .i64 k), (105, .bool true), (108, .bool true), (113, .bool true)]) ?_
  refine (nfEBTT1 pad k b M _).trans ?_
  refine (if_pos ⟨rfl, hk⟩).trans ?_
  refine (if_pos (by rw [hN]; omega)).trans ?_
  refine (if_pos ⟨by decide, by rw [hNt]; omega⟩).trans ?_
  refine (if_pos ⟨by simp only [hNt, hT, hT2, hT3, zrep_one, putCells_len, bys_length, List.length_replicate, List.length_cons, List.length_nil]; omega, by simp⟩).trans ?_
  refine (if_pos ⟨by decide, by rw [hNt]; omega⟩).trans ?_
  refine (if_pos ⟨by simp only [hNt, hT, hT2, hT3, zrep_one, putCells_len, bys_length, List.length_replicate, List.length_cons, List.length_nil]; omega, by simp⟩).trans ?_
  refine (if_pos ⟨by decide, by rw [hNt]; omega⟩).trans ?_
  refine (if_pos ⟨by simp only [hNt, hT, hT2, hT3, zrep_one, putCells_len, bys_length, List.length_replicate, List.length_cons, List.length_nil]; omega, by simp⟩).trans ?_
  refine (if_pos ⟨by decide, by rw [hNt]; omega⟩).trans ?_
  refine (if_pos ⟨by simp only [hNt, hT, hT2, hT3, zrep_one, putCells_len, bys_length, List.length_replicate, List.length_cons, List.length_nil]; omega, by simp⟩).trans ?_
  refine (if_pos (cdec_true.2 (say6Mk (cs := kSrc true 3) (ds := kDst true) wS wD (by decide) (by rw [hw]; exact hmk) (by rw [hw]; exact hM) rfl))).trans ?_
  refine (if_pos ⟨by decide, by rw [hNt]; omega⟩).trans ?_
  refine (if_pos (by simp only [bys_length, Nat.zero_add, Nat.mul_one]; exact Nat.min_le_left _ _)).trans ?_
  refine (if_neg (by rw [hT]; simp)).trans ?_
  refine (if_pos (by rw [hNt]; omega)).trans ?_
  refine (if_pos ⟨by simp only [hNt, hT, hT2, hT3, zrep_one, putCells_len, bys_length, List.length_replicate, List.length_cons, List.length_nil]; omega, by rw [hT]; simp⟩).trans ?_
  refine (if_pos ⟨by decide, by rw [hNt]; omega⟩).trans ?_
  refine (if_pos ⟨by simp only [hNt, hT, hT2, hT3, zrep_one, putCells_len, bys_length, List.length_replicate, List.length_cons, List.length_nil]; omega, by simp⟩).trans ?_
  refine (if_pos ⟨by decide, by rw [hNt]; omega⟩).trans ?_
  refine (if_pos ⟨by simp only [hNt, hT, hT2, hT3, zrep_one, putCells_len, bys_length, List.length_replicate, List.length_cons, List.length_nil]; omega, by simp⟩).trans ?_
  refine (if_pos (cdec_true.2 (hIn _ _ _ (bOk_row rfl hcells (by rw [hNt]; omega)) rfl))).trans ?_
  refine (if_pos (decide_eq_true (by rw [hN, wrapI64 (by omega)]; omega))).trans ?_
  rfl

theorem ebRunTT2 (pad k : Int) (b : UInt8) (M O : List UInt8) (n N : Nat) (hk : pad % 5 = k) (hk2 : 0 ≤ k ∧ k ≤ 4) (hN0 : (N : Int) = 65495 + k - 2) (hn : N = 14 + 40 + (n + 6)) (hN1 : N + 40 ≤ 65535) (hM : make6 (kSrc true 3) (kDst true) 17 (n + 6 : Nat) = b :: M) (hMl : M.length + 1 = 40) (hO : O.length = N + 40)
    (hIn : ∀ (h : AHeap) (a : AV) (q : Nat), (bOk h a = true ∧ bOf h a = bigF true (b :: M) n) → h.length = q → InR [a, .agg (dAdr false 150), .agg (dAdr true 150), .agg (dAdr true 1)] h (.tup [slB q O, (.int .i64 0)]) [ownB O]) (hbl : (bigF true (b :: M) n).length = N) :
    ∃ h', Runs Try.prog 5 [.bool true, .bool true, .int .i64 pad] [] (.bool true) h' := by
  have hN : nB 65495 k = (N : Int) := by unfold nB; rw [wrapI64 (n := 65495 + k) (by omega), wrapI64 (by omega)]; omega
  have hNt : (nB 65495 k).toNat = N := by rw [hN]; omega
  have hbm : (b :: M).length = 40 := by simp only [List.length_cons]; omega
  have hT : List.take ((b :: M).length.min ((nB 65495 k).toNat - 14) * 1) (bys (b :: M)) = bys (b :: M) := by
    refine List.take_of_length_le ?_
    rw [bys_length, hNt, Nat.mul_one, hbm]; show 40 ≤ min 40 (N - 14); omega
  have hT2 : List.take ((b :: M).length.min (N - 14) * 1) (bys (b :: M)) = bys (b :: M) := by rw [← hNt]; exact hT
  have hT3 : List.take ((M.length + 1).min (N - 14) * 1) (bys (b :: M)) = bys (b :: M) := hT2
  have hw : IntKind.i64.wrap (IntKind.i64.wrap (nB 65495 k - 14) - 40) = ((n + 6 : Nat) : Int) := by rw [hN, wrapI64 (n := (N : Int) - 14) (by omega), wrapI64 (by omega)]; omega
  have hcells : putCells (putCells (putCells (putCells (putCells (putCells (putCells (zrep (nB 65495 k).toNat [b8 0]) 12 [b8 8]) 13 [b8 0]) 12 [b8 134]) 13 [b8 221]) 14 (List.take ((b :: M).length.min ((nB 65495 k).toNat - 14) * 1) (bys (b :: M)))) 58 [b8 0]) 59 [b8 8] = bys (bigF true (b :: M) n) := by
    rw [hT, hNt]
    exact (big_cells (v := true) (H := b :: M) (n := n) (N := N) (by rw [hbm]; omega) (by rw [hbm]) (by rw [hbm]) rfl).2
  have wS : adrWf (kSrc true 3) = true := by rw [kSrc_B]; exact adrB_wf rfl
  have wD : adrWf (kDst true) = true := by rw [kDst_B]; exact adrB_wf rfl
  have hmk : makes6 (kSrc true 3) (kDst true) ((n + 6 : Nat) : Int) := by rw [kSrc_B, kDst_B]; exact ⟨rfl, rfl, by omega, by omega⟩
  refine Runs.valT0 (tEBOk (b :: M) O (.int .i64 0)) (F := 100) (n := 5) (pr := [(23, .int .i64 k), (105, .bool false), (118, .bool true), (126, .bool true)]) ?_
  refine (nfEBTT2 pad k b M O _).trans ?_
  refine (if_pos ⟨rfl, hk⟩).trans ?_
  refine (if_pos (by rw [hN]; omega)).trans ?_
  refine (if_pos ⟨by decide, by rw [hNt]; omega⟩).trans ?_
  refine (if_pos ⟨by simp only [hNt, hT, hT2, hT3, zrep_one, putCells_len, bys_length, List.length_replicate, List.length_cons, List.length_nil]; omega, by simp⟩).trans ?_
  refine (if_pos ⟨by decide, by rw [hNt]; omega⟩).trans ?_
  refine (if_pos ⟨by simp only [hNt, hT, hT2, hT3, zrep_one, putCells_len, bys_length, List.length_replicate, List.length_cons, List.length_nil]; omega, by simp⟩).trans ?_
  refine (if_pos ⟨by decide, by rw [hNt]; omega⟩).trans ?_
  refine (if_pos ⟨by simp only [hNt, hT, hT2, hT3, zrep_one, putCells_len, bys_length, List.length_replicate, List.length_cons, List.length_nil]; omega, by simp⟩).trans ?_
  refine (if_pos ⟨by decide, by rw [hNt]; omega⟩).trans ?_
  refine (if_pos ⟨by simp only [hNt, hT, hT2, hT3, zrep_one, putCells_len, bys_length, List.length_replicate, List.length_cons, List.length_nil]; omega, by simp⟩).trans ?_
  refine (if_pos (cdec_true.2 (say6Mk (cs := kSrc true 3) (ds := kDst true) wS wD (by decide) (by rw [hw]; exact hmk) (by rw [hw]; exact hM) rfl))).trans ?_
  refine (if_pos ⟨by decide, by rw [hNt]; omega⟩).trans ?_
  refine (if_pos (by simp only [bys_length, Nat.zero_add, Nat.mul_one]; exact Nat.min_le_left _ _)).trans ?_
  refine (if_neg (by rw [hT]; simp)).trans ?_
  refine (if_pos (by rw [hNt]; omega)).trans ?_
  refine (if_pos ⟨by simp only [hNt, hT, hT2, hT3, zrep_one, putCells_len, bys_length, List.length_replicate, List.length_cons, List.length_nil]; omega, by rw [hT]; simp⟩).trans ?_
  refine (if_pos ⟨by decide, by rw [hNt]; omega⟩).trans ?_
  refine (if_pos ⟨by simp only [hNt, hT, hT2, hT3, zrep_one, putCells_len, bys_length, List.length_replicate, List.length_cons, List.length_nil]; omega, by simp⟩).trans ?_
  refine (if_pos ⟨by decide, by rw [hNt]; omega⟩).trans ?_
  refine (if_pos ⟨by simp only [hNt, hT, hT2, hT3, zrep_one, putCells_len, bys_length, List.length_replicate, List.length_cons, List.length_nil]; omega, by simp⟩).trans ?_
  refine (if_pos (cdec_true.2 (hIn _ _ _ (bOk_row rfl hcells (by rw [hNt]; omega)) rfl))).trans ?_
  refine (if_pos (decide_eq_false (by rw [hN, wrapI64 (by omega)]; omega))).trans ?_
  refine (if_pos (by rw [hN, wrapI64 (by omega), hO]; simp)).trans ?_
  rfl

theorem runEncapBig (v d : Bool) (pad : Int) (hp : -9223372036854775808 ≤ pad ∧ pad < 9223372036854775808) : ∃ h', Runs Try.prog 5 [.bool v, .bool d, .int .i64 pad] [] (.bool true) h' := by
  have hk : 0 ≤ pad % 5 ∧ pad % 5 ≤ 4 := by omega
  have hHv : frH v = 20 ∨ frH v = 40 := by cases v <;> simp [frH]
  have hHd : frH d = 20 ∨ frH d = 40 := by cases d <;> simp [frH]
  obtain ⟨N, hN⟩ : ∃ N : Nat, (N : Int) = 65535 - frH d + pad % 5 - 2 := ⟨(65535 - (frH d : Int) + pad % 5 - 2).toNat, by omega⟩
  obtain ⟨n, hn⟩ : ∃ n : Nat, N = 14 + frH v + (n + 6) := ⟨N - 14 - frH v - 6, by omega⟩
  obtain ⟨H, hH⟩ : ∃ H, H = (if v = true then make6 (kSrc true 3) (kDst true) 17 (n + 6 : Nat) else make4 (kSrc false 3) (kDst false) 17 (n + 6 : Nat)) := ⟨_, rfl⟩
  obtain ⟨r1, r2, r3, r4, sp, dp, fl, r5⟩ := big_read v n (H := H) (by omega) (by omega) (by omega) hH
  cases H with
  | nil => simp at r1; omega
  | cons b M =>
  have r1' : M.length + 1 = frH v := by simpa using r1
  have hlen : (bigF v (b :: M) n).length = N := by rw [r2]; omega
  by_cases hb : 65535 < N + frH d
  · have hIn : ∀ (h : AHeap) (a : AV) (q : Nat), (bOk h a = true ∧ bOf h a = bigF v (b :: M) n) → h.length = q → InR [a, .agg (dAdr false 150), .agg (dAdr true 150), .agg (dAdr d 1)] h (.tup [slB q [], .int .i64 9]) [ownB []] :=
      fun h a q g hq => InR.big _ v d 1 3 _ _ _ _ _ _ _ h a q g (by omega) r5 ⟨by omega, by omega⟩ ⟨by omega, by omega⟩ (by omega) hq
    cases v <;> cases d
    · exact ebRunFF1 pad (pad % 5) b M n N rfl hk hN hn hb (hH.trans (if_neg (by simp))).symm r1' hIn hlen
    · exact ebRunFT1 pad (pad % 5) b M n N rfl hk hN hn hb (hH.trans (if_neg (by simp))).symm r1' hIn hlen
    · exact ebRunTF1 pad (pad % 5) b M n N rfl hk hN hn hb (hH.trans (if_pos rfl)).symm r1' hIn hlen
    · exact ebRunTT1 pad (pad % 5) b M n N rfl hk hN hn hb (hH.trans (if_pos rfl)).symm r1' hIn hlen
  · have hIn : ∀ (h : AHeap) (a : AV) (q : Nat), (bOk h a = true ∧ bOf h a = bigF v (b :: M) n) → h.length = q → InR [a, .agg (dAdr false 150), .agg (dAdr true 150), .agg (dAdr d 1)] h (.tup [slB q (inF (bigF v (b :: M) n) v d 1 14 (14 + frH v + (n + 6) : Nat)), .int .i64 0]) [ownB (inF (bigF v (b :: M) n) v d 1 14 (14 + frH v + (n + 6) : Nat))] :=
      fun h a q g hq => InR.ok _ v d 1 3 _ _ _ _ _ _ _ h a q g (by omega) r5 ⟨r3, r4⟩ ⟨by omega, by omega⟩ (by omega) hq
    have hO : (inF (bigF v (b :: M) n) v d 1 14 (14 + frH v + (n + 6) : Nat)).length = N + frH d := by
      obtain ⟨w, W, hW, hLA, _⟩ := withR_cons (l := bigF v (b :: M) n) (k := kdOf d) (A := 14) ⟨r3, r4⟩
      obtain ⟨⟨c, C, hC, hLC⟩, _⟩ := mkO_cons (d6 := d) (m := 1) (p := if v = true then 41 else 4) (n := (14 + frH v + (n + 6) : Nat) - 14) (by omega)
      unfold inF
      rw [hW, hC, List.length_append, List.length_append, hLC, List.length_take, List.length_drop, hlen]
      omega
    generalize inF (bigF v (b :: M) n) v d 1 14 (14 + frH v + (n + 6) : Nat) = O at *
    cases v <;> cases d
    · exact ebRunFF2 pad (pad % 5) b M O n N rfl hk hN hn (Nat.le_of_not_lt hb) (hH.trans (if_neg (by simp))).symm r1' hO hIn hlen
    · exact ebRunFT2 pad (pad % 5) b M O n N rfl hk hN hn (Nat.le_of_not_lt hb) (hH.trans (if_neg (by simp))).symm r1' hO hIn hlen
    · exact ebRunTF2 pad (pad % 5) b M O n N rfl hk hN hn (Nat.le_of_not_lt hb) (hH.trans (if_pos rfl)).symm r1' hO hIn hlen
    · exact ebRunTT2 pad (pad % 5) b M O n N rfl hk hN hn (Nat.le_of_not_lt hb) (hH.trans (if_pos rfl)).symm r1' hO hIn hlen

end Go.Proofs.Ytjkkhbeidhpghaa.L
