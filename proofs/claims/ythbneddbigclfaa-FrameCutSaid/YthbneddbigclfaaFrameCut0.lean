/- FrameCut's run. -/
import Derived.Test.YthbneddbigclfaaFrameCutN
set_option autoImplicit false
set_option maxRecDepth 100000
set_option linter.unusedVariables false
set_option linter.unusedSimpArgs false
namespace Go.Proofs.Ythbneddbigclfaa.L
open Go Go.Abs

theorem bldF_take (v u t : Bool) (n : Int) (d : List UInt8) (p j : Nat) (hd : d.length ≤ 2000) (h : frA t + frH v + (hdn u + d.length) ≤ j ∧ j ≤ frA t + frH v + (hdn u + d.length) + p) : (bldF v u t false n 0 d p).take j = bldF v u t false n 0 d (j - (frA t + frH v + (hdn u + d.length))) := by
  have h0 : (bldE v t ++ bldH v u n ((hdn u + d.length : Nat) : Int) ++ bldG v u false n 0 d).length = frA t + frH v + (hdn u + d.length) := by
    have := bldF_len v u t false n 0 d 0 hd
    unfold bldF at this
    simpa using this
  unfold bldF
  rw [List.take_append, h0, List.take_of_length_le (by omega), List.take_replicate, Nat.min_eq_left (by omega)]
theorem fcMain (v u : Bool) (n cut : Int) (d : List UInt8) (p : Nat) (hd : d.length ≤ 300) (hp : p ≤ 50) : ∃ h', Runs Try.prog 5 [.int .i64 n, .bool v, .bool u, slB 0 d, .int .i64 (p : Int), .int .i64 cut] [farB d] (.bool true) h' := by
  obtain ⟨t, ht⟩ : ∃ t : Bool, (n.tmod 2 == 0) = t := ⟨_, rfl⟩
  have hl := bldF_len v u t false n 0 d p (by omega)
  have hA : frA t ≤ 18 := by cases t <;> decide
  have hH : frH v ≤ 40 := by cases v <;> decide
  have hh : hdn u ≤ 20 := by cases u <;> decide
  have hv : vRead (bldF v u t false n 0 d p) = (.tup [.agg (viewOf v ((frA t : Nat) : Int) ((frA t + frH v : Nat) : Int) ((frA t + frH v + (hdn u + d.length) : Nat) : Int) (prt u) (kSrc v n) (kDst v) (kport n) 80 0), .int .i64 0]) := by
    rw [(bldF_read v u t false n 0 d p (by omega) (by omega)).2.2]
    cases u <;> rfl
  have hr := (bldF_read v u t false n 0 d p (by omega) (by omega)).1
  have hE : (netR (bldF v u t false n 0 d p)).1 + rdE (bldF v u t false n 0 d p) = ((frA t + frH v + (hdn u + d.length) : Nat) : Int) := (vw_facts hr hv (by rw [kSrc_B]; exact adrB_wf rfl) (by rw [kDst_B]; exact adrB_wf rfl)).2.2.2.1
  have hB : ∀ (h : AHeap) (a : AV) (k : Nat), (bOk h a = true ∧ bOf h a = d) → h.length = k → BuildR [.agg (keyV v u n), .int .u8 0, a, .bool t, .bool false, .int .i64 (p : Int)] h (slB k (bldF v u t false n 0 d p)) [ownB (bldF v u t false n 0 d p)] := fun h a k g hk => BuildR.mk v u t false n 0 d p h a k g (by omega) (by omega) hk
  have w1 : IntKind.i64.wrap (((bldF v u t false n 0 d p).length : Int) + 1) = ((bldF v u t false n 0 d p).length : Int) + 1 := wrapI64 (by omega)
  have c0 := Int.emod_nonneg cut (show (((bldF v u t false n 0 d p).length : Int) + 1) ≠ 0 by omega)
  have c1 := Int.emod_lt_of_pos cut (show 0 < (((bldF v u t false n 0 d p).length : Int) + 1) by omega)
  obtain ⟨j, hj⟩ : ∃ j : Nat, cut % (((bldF v u t false n 0 d p).length : Int) + 1) = (j : Int) := ⟨(cut % (((bldF v u t false n 0 d p).length : Int) + 1)).toNat, by omega⟩
  have hjl : j ≤ (bldF v u t false n 0 d p).length := by omega
  by_cases hc : (j : Int) < ((frA t + frH v + (hdn u + d.length) : Nat) : Int)
  · have rN := read_cut hr hjl (by rw [hE]; exact hc)
    have wN : vRead ((bldF v u t false n 0 d p).take j) = (.tup [.agg view0, .int .i64 1]) := vRead_N rN (by decide)
    have gN : goodF ((bldF v u t false n 0 d p).take j) = false := goodF_N (by rw [rN]; decide)
    refine Runs.valT0 (tFCOk (bldF v u t false n 0 d p) (.tup [.agg (viewOf v ((frA t : Nat) : Int) ((frA t + frH v : Nat) : Int) ((frA t + frH v + (hdn u + d.length) : Nat) : Int) (prt u) (kSrc v n) (kDst v) (kport n) 80 0), .int .i64 0]) (.tup [.agg view0, .int .i64 1]) false) (F := 100) (n := 4) (pr := [(22, .bool false), (26, .bool false), (29, .bool false), (38, .bool t), (47, .bool false), (52, .int .i64 (j : Int)), (63, .bool true), (66, .bool true), (71, .bool true), (78, .bool true)]) ?_
    refine (nfFC1 v u t n ((frA t : Nat) : Int) ((frA t + frH v : Nat) : Int) ((frA t + frH v + (hdn u + d.length) : Nat) : Int) (p : Int) cut (j : Int) d (bldF v u t false n 0 d p) _).trans ?_
    iterate 3 (refine (if_pos (decide_eq_false (by omega))).trans ?_)
    refine (if_pos (ht)).trans ?_
    refine (if_pos (cdec_true.2 (hB _ _ _ (bOk_row rfl rfl rfl) rfl))).trans ?_
    refine (if_pos (cdec_true.2 (sayRead (bOk_row rfl rfl rfl) (by show (bldF v u t false n 0 d p).length ≤ _; omega) hv))).trans ?_
    refine (if_pos (decide_eq_true (by rw [w1]; omega))).trans ?_
    refine (if_pos (⟨rfl, by rw [w1]; exact hj⟩)).trans ?_
    refine (if_pos (by simp only [capOf_f]; omega)).trans ?_
    refine (if_pos (cdec_true.2 (sayRead (bOk_cut (l := (bldF v u t false n 0 d p)) (L := (bldF v u t false n 0 d p).take j) rfl rfl (by simp only [Int.toNat_natCast]; omega) (by simp)) (by simp <;> omega) wN))).trans ?_
    refine (if_pos (decide_eq_true (by simp only [intV]; omega))).trans ?_
    refine (if_pos (by simp only [capOf_f]; omega)).trans ?_
    refine (if_pos (cdec_true.2 (sayGood (bOk_cut (l := (bldF v u t false n 0 d p)) (L := (bldF v u t false n 0 d p).take j) rfl rfl (by simp only [Int.toNat_natCast]; omega) (by simp)) (by simp <;> omega) gN))).trans ?_
    rfl
  · have e := bldF_take v u t n d p j (by omega) ⟨by omega, by omega⟩
    have wY : vRead ((bldF v u t false n 0 d p).take j) = (.tup [.agg (viewOf v ((frA t : Nat) : Int) ((frA t + frH v : Nat) : Int) ((frA t + frH v + (hdn u + d.length) : Nat) : Int) (prt u) (kSrc v n) (kDst v) (kport n) 80 0), .int .i64 0]) := by
      rw [e, (bldF_read v u t false n 0 d _ (by omega) (by omega)).2.2]
      cases u <;> rfl
    have gY : goodF ((bldF v u t false n 0 d p).take j) = true := by rw [e]; exact bldF_good _ _ _ _ _ _ _ _ (by omega) (by omega)
    refine Runs.valT0 (tFCOk (bldF v u t false n 0 d p) (.tup [.agg (viewOf v ((frA t : Nat) : Int) ((frA t + frH v : Nat) : Int) ((frA t + frH v + (hdn u + d.length) : Nat) : Int) (prt u) (kSrc v n) (kDst v) (kport n) 80 0), .int .i64 0]) (.tup [.agg (viewOf v ((frA t : Nat) : Int) ((frA t + frH v : Nat) : Int) ((frA t + frH v + (hdn u + d.length) : Nat) : Int) (prt u) (kSrc v n) (kDst v) (kport n) 80 0), .int .i64 0]) true) (F := 100) (n := 4) (pr := [(22, .bool false), (26, .bool false), (29, .bool false), (38, .bool t), (47, .bool false), (52, .int .i64 (j : Int)), (63, .bool false), (83, .bool true), (88, .bool true), (94, .bool true)]) ?_
    refine (nfFC2 v u t n ((frA t : Nat) : Int) ((frA t + frH v : Nat) : Int) ((frA t + frH v + (hdn u + d.length) : Nat) : Int) (p : Int) cut (j : Int) d (bldF v u t false n 0 d p) _).trans ?_
    iterate 3 (refine (if_pos (decide_eq_false (by omega))).trans ?_)
    refine (if_pos (ht)).trans ?_
    refine (if_pos (cdec_true.2 (hB _ _ _ (bOk_row rfl rfl rfl) rfl))).trans ?_
    refine (if_pos (cdec_true.2 (sayRead (bOk_row rfl rfl rfl) (by show (bldF v u t false n 0 d p).length ≤ _; omega) hv))).trans ?_
    refine (if_pos (decide_eq_true (by rw [w1]; omega))).trans ?_
    refine (if_pos (⟨rfl, by rw [w1]; exact hj⟩)).trans ?_
    refine (if_pos (by simp only [capOf_f]; omega)).trans ?_
    refine (if_pos (cdec_true.2 (sayRead (bOk_cut (l := (bldF v u t false n 0 d p)) (L := (bldF v u t false n 0 d p).take j) rfl rfl (by simp only [Int.toNat_natCast]; omega) (by simp)) (by simp <;> omega) wY))).trans ?_
    refine (if_pos (decide_eq_false (by simp only [intV]; omega))).trans ?_
    refine (if_pos (by simp)).trans ?_
    refine (if_pos (by simp only [capOf_f]; omega)).trans ?_
    refine (if_pos (cdec_true.2 (sayGood (bOk_cut (l := (bldF v u t false n 0 d p)) (L := (bldF v u t false n 0 d p).take j) rfl rfl (by simp only [Int.toNat_natCast]; omega) (by simp)) (by simp <;> omega) gY))).trans ?_
    rfl

theorem runFrameCut (n : Int) (v u : Bool) (d : List UInt8) (pad cut : Int) (hn : -9223372036854775808 ≤ n ∧ n < 9223372036854775808) (hd : d.length ≤ maxLen) (hp : -9223372036854775808 ≤ pad ∧ pad < 9223372036854775808) (hc : -9223372036854775808 ≤ cut ∧ cut < 9223372036854775808) :
    ∃ h', Runs Try.prog 5 [.int .i64 n, .bool v, .bool u, slB 0 d, .int .i64 pad, .int .i64 cut] [farB d] (.bool true) h' := by
  by_cases h1 : d.length ≤ 300
  case neg =>
    refine Runs.valT0 (tFCOk [] .nilFn .nilFn false) (F := 100) (n := 4) (pr := [(22, .bool true)]) ?_
    refine (nfFCX1 v u n pad cut d _).trans ?_
    refine (if_pos (decide_eq_true (by omega))).trans ?_
    rfl
  by_cases h2 : pad < 0
  · refine Runs.valT0 (tFCOk [] .nilFn .nilFn false) (F := 100) (n := 4) (pr := [(22, .bool false), (26, .bool true)]) ?_
    refine (nfFCX2 v u n pad cut d _).trans ?_
    refine (if_pos (decide_eq_false (by omega))).trans ?_
    refine (if_pos (decide_eq_true (by omega))).trans ?_
    rfl
  by_cases h3 : pad > 50
  · refine Runs.valT0 (tFCOk [] .nilFn .nilFn false) (F := 100) (n := 4) (pr := [(22, .bool false), (26, .bool false), (29, .bool true)]) ?_
    refine (nfFCX3 v u n pad cut d _).trans ?_
    refine (if_pos (decide_eq_false (by omega))).trans ?_
    refine (if_pos (decide_eq_false (by omega))).trans ?_
    refine (if_pos (decide_eq_true (by omega))).trans ?_
    rfl
  obtain ⟨p, rfl⟩ : ∃ p : Nat, pad = (p : Int) := ⟨pad.toNat, by omega⟩
  exact fcMain v u n cut d p (by omega) (by omega)

end Go.Proofs.Ythbneddbigclfaa.L
