/- FrameLayers' run. -/
import Derived.Test.YthbneddbigclfaaFrameLayersN
set_option autoImplicit false
set_option maxRecDepth 100000
set_option linter.unusedVariables false
set_option linter.unusedSimpArgs false
namespace Go.Proofs.Ythbneddbigclfaa.L
open Go Go.Abs

theorem flF (v u t : Bool) (n : Int) : (bldF v u t false n 0 [97, 98, 99] 0).length = frA t + frH v + (hdn u + 3) ∧ netR (bldF v u t false n 0 [97, 98, 99] 0) = ((frA t : Int), (if v = true then 34525 else 2048), 0) ∧ readR (bldF v u t false n 0 [97, 98, 99] 0) = 0 ∧
    rdS (bldF v u t false n 0 [97, 98, 99] 0) = frH v ∧ rdE (bldF v u t false n 0 [97, 98, 99] 0) = frH v + (hdn u + 3) ∧ rdP (bldF v u t false n 0 [97, 98, 99] 0) = prt u ∧ rdSrc (bldF v u t false n 0 [97, 98, 99] 0) = kSrc v n ∧ rdDst (bldF v u t false n 0 [97, 98, 99] 0) = kDst v := by
  have hl := bldF_len v u t false n 0 [97, 98, 99] 0 (by decide)
  obtain ⟨C0, h0, h1, h2⟩ := bldF_frm v u t false n 0 [97, 98, 99] 0 (by decide)
  obtain ⟨g1, g2, g3⟩ := bldF_read v u t false n 0 [97, 98, 99] 0 (by decide) (by decide)
  have hn : netR (bldF v u t false n 0 [97, 98, 99] 0) = ((frA t : Int), (if v = true then 34525 else 2048), 0) := by rw [h1]; exact net_E v t _
  obtain ⟨e1, e2, e3, e4, e5, e6, e7, _⟩ := vw_facts g1 g3 (by rw [kSrc_B]; exact adrB_wf rfl) (by rw [kDst_B]; exact adrB_wf rfl)
  rw [hn] at e3 e4
  have e3' : (frA t : Int) + rdS (bldF v u t false n 0 [97, 98, 99] 0) = ((frA t + frH v : Nat) : Int) := e3
  have e4' : (frA t : Int) + rdE (bldF v u t false n 0 [97, 98, 99] 0) = ((frA t + frH v + (hdn u + 3) : Nat) : Int) := e4
  exact ⟨hl, hn, g1, by omega, by omega, e5, e6, e7⟩
theorem netV_N {l : List UInt8} {r : Int} (h : (netR l).2.2 = r) (h0 : r ≠ 0) : netV .u16 (netR l) = .tup [.int .i64 0, .int .u16 0, .int .i64 r] := by
  rcases netR_cases l with ⟨g, _⟩ | ⟨g1, g2, _⟩
  · omega
  · unfold netV; rw [g1, g2, h]
theorem netV_Y {l : List UInt8} {a b : Int} (h : netR l = (a, b, 0)) : netV .u16 (netR l) = .tup [.int .i64 a, .int .u16 b, .int .i64 0] := by rw [h]; rfl
theorem tag_t {F : List UInt8} {v t : Bool} (h : netR F = ((frA t : Int), (if v = true then 34525 else 2048), 0)) : decide (word F 12 = 33024) = t := by
  unfold netR at h
  by_cases h1 : F.length < 14
  · rw [if_pos h1] at h; have := congrArg (·.1) h; cases t <;> simp [frA] at this
  rw [if_neg h1] at h
  by_cases h2 : word F 12 = 33024
  · rw [if_pos h2] at h
    rw [decide_eq_true h2]
    cases t
    · exfalso
      split at h
      · have := congrArg (·.1) h; simp [frA] at this
      · unfold netW at h; split at h
        · have := congrArg (·.1) h; simp [frA] at this
        · have := congrArg (·.1) h; simp [frA] at this
    · rfl
  · rw [if_neg h2] at h
    rw [decide_eq_false h2]
    cases t
    · rfl
    · exfalso
      unfold netW at h; split at h
      · have := congrArg (·.1) h; simp [frA] at this
      · have := congrArg (·.1) h; simp [frA] at this

theorem flAF (v u : Bool) (n cut : Int) (j : Nat) (F : List UInt8) (f1 : F.length = frA false + frH v + (hdn u + 3)) (f2 : netR F = ((frA false : Int), (if v = true then 34525 else 2048), 0)) (f3 : readR F = 0)
    (f4 : rdS F = frH v) (f5 : rdE F = frH v + (hdn u + 3)) (f6 : rdP F = prt u) (f7 : rdSrc F = kSrc v n) (f8 : rdDst F = kDst v)
    (hB : ∀ (h : AHeap) (a : AV) (q : Nat), (bOk h a = true ∧ bOf h a = [97, 98, 99]) → h.length = q → BuildR [.agg (keyV v u n), .int .u8 0, a, .bool false, .bool false, .int .i64 0] h (slB q F) [ownB F]) (hc : cut % ((F.length : Int) + 1) = (j : Int)) (hle : j ≤ F.length) (hj : j < 14) : ∃ h', Runs Try.prog 6 [.int .i64 n, .bool v, .bool u, .bool false, .int .i64 cut] [] (.bool true) h' := by
  have hA : frA false = 14 := rfl
  have hH : frH v ≤ 40 := by cases v <;> decide
  have hd : hdn u ≤ 20 := by cases u <;> decide
  have hH2 : 20 ≤ frH v := by cases v <;> decide
  rw [hA] at f1
  have f2' : netR F = (14, (if v = true then 34525 else 2048), 0) := f2
  have htag := tag_t f2
  obtain ⟨n1, n2⟩ := netR_take (k := j) (by rw [f2']) hle
  rw [f2'] at n1 n2
  have hn := netV_N (n1 (by show (j : Int) < 14; omega)) (by decide)
  refine Runs.valT0 (tFLOk F (.tup [.int .i64 0, .int .u16 0, .int .i64 1]) .nilFn .nilFn .nilFn false) (F := 100) (n := 6) (pr := [(30, .int .i64 (j : Int)), (40, .bool true)]) ?_
  refine (nfFLAF v u n 0 0 0 0 cut (j : Int) F _).trans ?_
  refine (if_pos (cdec_true.2 (hB _ _ _ (bOk_row rfl rfl rfl) rfl))).trans ?_
  refine (if_pos (decide_eq_true (by rw [wrapI64 (by omega)]; omega))).trans ?_
  refine (if_pos (⟨rfl, by rw [wrapI64 (by omega)]; exact hc⟩)).trans ?_
  refine (if_pos (decide_eq_true (by omega))).trans ?_
  refine (if_pos (by simp only [capOf_f]; omega)).trans ?_
  refine (if_pos (cdec_true.2 (sayNet (bOk_cut (l := F) (L := F.take j) rfl rfl (by first | (simp; done) | (simp; omega)) (by simp)) (by first | (simp; done) | (simp; omega)) hn))).trans ?_
  rfl

theorem flBFF (u : Bool) (n cut : Int) (j : Nat) (F : List UInt8) (f1 : F.length = frA false + frH false + (hdn u + 3)) (f2 : netR F = ((frA false : Int), (if false = true then 34525 else 2048), 0)) (f3 : readR F = 0)
    (f4 : rdS F = frH false) (f5 : rdE F = frH false + (hdn u + 3)) (f6 : rdP F = prt u) (f7 : rdSrc F = kSrc false n) (f8 : rdDst F = kDst false)
    (hB : ∀ (h : AHeap) (a : AV) (q : Nat), (bOk h a = true ∧ bOf h a = [97, 98, 99]) → h.length = q → BuildR [.agg (keyV false u n), .int .u8 0, a, .bool false, .bool false, .int .i64 0] h (slB q F) [ownB F]) (hc : cut % ((F.length : Int) + 1) = (j : Int)) (hle : j ≤ F.length) (hj : 14 ≤ j ∧ j < F.length) : ∃ h', Runs Try.prog 6 [.int .i64 n, .bool false, .bool u, .bool false, .int .i64 cut] [] (.bool true) h' := by
  have hA : frA false = 14 := rfl
  have hH : frH false ≤ 40 := by decide
  have hd : hdn u ≤ 20 := by cases u <;> decide
  have hH2 : 20 ≤ frH false := by decide
  rw [hA] at f1
  have f2' : netR F = (14, (if false = true then 34525 else 2048), 0) := f2
  have htag := tag_t f2
  obtain ⟨n1, n2⟩ := netR_take (k := j) (by rw [f2']) hle
  rw [f2'] at n1 n2
  have hn2 := n2 (by show (14 : Int) ≤ j; omega)
  have hn := netV_Y hn2
  have hq : ipQ F = F.drop 14 := by unfold ipQ; rw [f2']; rfl
  have hiv : isV6 F = false := by unfold isV6; rw [f2']; rfl
  have ht2 : decide (word (F.take j) 12 = 33024) = false := by rw [wd_take (by omega)]; exact htag
  have hI := (readR_0 f3).2.2.1
  have hi2 := ip_facts (readR_0 f3).1 hI
  unfold rdI at hI
  rw [hiv] at hI
  have hI2 : r4 (F.drop 14) = 0 := by rw [← hq]; exact hI
  have hr := r4_cut (j := j - 14) hI2 (by have h5 := f5; unfold rdE at h5; rw [hiv, if_neg (by simp), hq] at h5; omega)
  have hv := r4_N hr (by decide)
  refine Runs.valT0 (tFLOk F (.tup [.int .i64 14, .int .u16 2048, .int .i64 0]) (.tup [.agg ([.int .i64 0, .int .i64 0, .int .u8 0] ++ adr0 ++ adr0), .int .i64 1]) (.tup [.agg ([.int .i64 0, .int .u8 0] ++ adr0 ++ adr0), .int .i64 1]) .nilFn false) (F := 100) (n := 6) (pr := [(30, .int .i64 (j : Int)), (40, .bool false), (53, .bool false)]) ?_
  refine (nfFLBFF true u n 0 0 0 0 cut (j : Int) F _).trans ?_
  refine (if_pos (cdec_true.2 (hB _ _ _ (bOk_row rfl rfl rfl) rfl))).trans ?_
  refine (if_pos (decide_eq_true (by rw [wrapI64 (by omega)]; omega))).trans ?_
  refine (if_pos (⟨rfl, by rw [wrapI64 (by omega)]; exact hc⟩)).trans ?_
  refine (if_pos (decide_eq_false (by omega))).trans ?_
  refine (if_pos (by simp; omega)).trans ?_
  refine (if_pos (by simp only [capOf_f]; omega)).trans ?_
  refine (if_pos (cdec_true.2 (sayNet (bOk_cut (l := F) (L := F.take j) rfl rfl (by first | (simp; done) | (simp; omega)) (by simp)) (by first | (simp; done) | (simp; omega)) hn))).trans ?_
  refine (if_pos (cdec_true.2 (sayTag (bOk_cut (l := F) (L := F.take j) rfl rfl (by first | (simp; done) | (simp; omega)) (by simp)) (by first | (simp; done) | (simp; omega)) ht2))).trans ?_
  refine (if_pos (cdec_true.2 (sayNet (bOk_cut (l := F) (L := F.take j) rfl rfl (by first | (simp; done) | (simp; omega)) (by simp)) (by first | (simp; done) | (simp; omega)) hn))).trans ?_
  refine (if_pos (⟨by decide, by simp; omega⟩)).trans ?_
  refine (if_pos (cdec_true.2 (say4 (bOk_cut (l := F) (L := (F.drop 14).take (j - 14)) rfl rfl (by first | (simp; done) | (simp; omega)) (by simp)) (by first | (simp; done) | (simp; omega)) hv))).trans ?_
  rfl

theorem flCFFF (n cut : Int) (j : Nat) (F : List UInt8) (f1 : F.length = frA false + frH false + (hdn false + 3)) (f2 : netR F = ((frA false : Int), (if false = true then 34525 else 2048), 0)) (f3 : readR F = 0)
    (f4 : rdS F = frH false) (f5 : rdE F = frH false + (hdn false + 3)) (f6 : rdP F = prt false) (f7 : rdSrc F = kSrc false n) (f8 : rdDst F = kDst false)
    (hB : ∀ (h : AHeap) (a : AV) (q : Nat), (bOk h a = true ∧ bOf h a = [97, 98, 99]) → h.length = q → BuildR [.agg (keyV false false n), .int .u8 0, a, .bool false, .bool false, .int .i64 0] h (slB q F) [ownB F]) (hc : cut % ((F.length : Int) + 1) = (j : Int)) (hle : j ≤ F.length) (hj : j = F.length) : ∃ h', Runs Try.prog 6 [.int .i64 n, .bool false, .bool false, .bool false, .int .i64 cut] [] (.bool true) h' := by
  have hA : frA false = 14 := rfl
  have hH : frH false ≤ 40 := by decide
  have hd : hdn false ≤ 20 := by decide
  have hH2 : 20 ≤ frH false := by decide
  rw [hA] at f1
  have f2' : netR F = (14, (if false = true then 34525 else 2048), 0) := f2
  have htag := tag_t f2
  obtain ⟨n1, n2⟩ := netR_take (k := j) (by rw [f2']) hle
  rw [f2'] at n1 n2
  have hn2 := n2 (by show (14 : Int) ≤ j; omega)
  have hn := netV_Y hn2
  have hq : ipQ F = F.drop 14 := by unfold ipQ; rw [f2']; rfl
  have hiv : isV6 F = false := by unfold isV6; rw [f2']; rfl
  have ht2 : decide (word (F.take j) 12 = 33024) = false := by rw [wd_take (by omega)]; exact htag
  have hI := (readR_0 f3).2.2.1
  have hi2 := ip_facts (readR_0 f3).1 hI
  unfold rdI at hI
  rw [hiv] at hI
  have hI2 : r4 (F.drop 14) = 0 := by rw [← hq]; exact hI
  subst hj
  have f1c : F.length = 57 := f1
  have htk : F.take F.length = F := List.take_length
  have f5c : rdE F = 43 := f5
  have f4c : rdS F = 20 := f4
  have h6 : segR (rdP F) (rdG F) = 0 := (readR_0 f3).2.2.2
  have hP : rdP F = 6 := f6
  rw [hP] at h6
  have hsg := (segRead_Y h6).1
  have hGe := hi2.2.2.2.1
  rw [f2', f4c, f5c] at hGe
  have a0 : s4 (F.drop 14) = 20 := by have h5 := f4c; unfold rdS at h5; rw [hiv, if_neg (by simp), hq] at h5; exact h5
  have a1 : word (F.drop 14) 2 = 43 := by have h5 := f5c; unfold rdE at h5; rw [hiv, if_neg (by simp), hq] at h5; exact h5
  have a2 : byt (F.drop 14) 9 = 6 := by have h5 := hP; unfold rdP at h5; rw [hiv, if_neg (by simp), hq] at h5; exact h5
  have a3 : adr4 (F.drop 14) 12 = kSrc false n := by have h5 := f7; unfold rdSrc at h5; rw [hiv, if_neg (by simp), hq] at h5; exact h5
  have a4 : adr4 (F.drop 14) 16 = kDst false := by have h5 := f8; unfold rdDst at h5; rw [hiv, if_neg (by simp), hq] at h5; exact h5
  have hv := r4_Y hI2
  rw [a0, a1, a2, a3, a4] at hv
  refine Runs.valT0 (tFLOk F (.tup [.int .i64 14, .int .u16 2048, .int .i64 0]) (.tup [.agg ([.int .i64 20, .int .i64 43, .int .u8 6] ++ kSrc false n ++ kDst false), .int .i64 0]) (.tup [.agg ([.int .i64 43, .int .u8 6] ++ kSrc true n ++ kDst true), .int .i64 0]) (.tup [.agg [.int .u16 (word (rdG F) 0), .int .u16 (word (rdG F) 2), .int .u8 (segF 6 (rdG F))], .int .i64 0]) false) (F := 100) (n := 6) (pr := [(30, .int .i64 (F.length : Int)), (40, .bool false), (53, .bool true)]) ?_
  refine (nfFLCFFF true true n 43 (word (rdG F) 0) (word (rdG F) 2) (segF 6 (rdG F)) cut (F.length : Int) F _).trans ?_
  refine (if_pos (cdec_true.2 (hB _ _ _ (bOk_row rfl rfl rfl) rfl))).trans ?_
  refine (if_pos (decide_eq_true (by rw [wrapI64 (by omega)]; omega))).trans ?_
  refine (if_pos (⟨rfl, by rw [wrapI64 (by omega)]; exact hc⟩)).trans ?_
  refine (if_pos (decide_eq_false (by omega))).trans ?_
  refine (if_pos (beq_self_eq_true _)).trans ?_
  refine (if_pos (by simp only [capOf_f]; omega)).trans ?_
  refine (if_pos (cdec_true.2 (sayNet (bOk_cut (l := F) (L := F.take F.length) rfl rfl (by first | (simp; done) | (simp; omega)) (by simp)) (by first | (simp; done) | (simp; omega)) hn))).trans ?_
  refine (if_pos (cdec_true.2 (sayTag (bOk_cut (l := F) (L := F.take F.length) rfl rfl (by first | (simp; done) | (simp; omega)) (by simp)) (by first | (simp; done) | (simp; omega)) ht2))).trans ?_
  refine (if_pos (cdec_true.2 (sayNet (bOk_cut (l := F) (L := F.take F.length) rfl rfl (by first | (simp; done) | (simp; omega)) (by simp)) (by first | (simp; done) | (simp; omega)) hn))).trans ?_
  refine (if_pos (⟨by decide, by simp; omega⟩)).trans ?_
  refine (if_pos (cdec_true.2 (say4 (bOk_cut (l := F) (L := F.drop 14) rfl rfl (by first | (simp; done) | (simp; omega)) (by rw [List.take_of_length_le (by simp)])) (by first | (simp; done) | (simp; omega)) hv))).trans ?_
  refine (if_pos (AV.beq_self _)).trans ?_
  refine (if_pos (by show (0 : Int) ≤ 14+43 ∧ ((14+43 : Int)) ≤ _; simp only [capOf_f]; omega)).trans ?_
  refine (if_pos (by show (0 : Int) ≤ 34 ∧ (34 : Int) ≤ 14+43; omega)).trans ?_
  refine (if_pos (cdec_true.2 (saySegR (l := rdG F) (bOk_cut (l := F) rfl rfl (by show 0 + (34 : Int).toNat * 1 + ((14+43 : Int).toNat - (34 : Int).toNat) ≤ _; omega) hGe) (by show (14+43 : Int).toNat - (34 : Int).toNat ≤ _; omega) hsg))).trans ?_
  rfl

theorem flCFTF (n cut : Int) (j : Nat) (F : List UInt8) (f1 : F.length = frA false + frH false + (hdn true + 3)) (f2 : netR F = ((frA false : Int), (if false = true then 34525 else 2048), 0)) (f3 : readR F = 0)
    (f4 : rdS F = frH false) (f5 : rdE F = frH false + (hdn true + 3)) (f6 : rdP F = prt true) (f7 : rdSrc F = kSrc false n) (f8 : rdDst F = kDst false)
    (hB : ∀ (h : AHeap) (a : AV) (q : Nat), (bOk h a = true ∧ bOf h a = [97, 98, 99]) → h.length = q → BuildR [.agg (keyV false true n), .int .u8 0, a, .bool false, .bool false, .int .i64 0] h (slB q F) [ownB F]) (hc : cut % ((F.length : Int) + 1) = (j : Int)) (hle : j ≤ F.length) (hj : j = F.length) : ∃ h', Runs Try.prog 6 [.int .i64 n, .bool false, .bool true, .bool false, .int .i64 cut] [] (.bool true) h' := by
  have hA : frA false = 14 := rfl
  have hH : frH false ≤ 40 := by decide
  have hd : hdn true ≤ 20 := by decide
  have hH2 : 20 ≤ frH false := by decide
  rw [hA] at f1
  have f2' : netR F = (14, (if false = true then 34525 else 2048), 0) := f2
  have htag := tag_t f2
  obtain ⟨n1, n2⟩ := netR_take (k := j) (by rw [f2']) hle
  rw [f2'] at n1 n2
  have hn2 := n2 (by show (14 : Int) ≤ j; omega)
  have hn := netV_Y hn2
  have hq : ipQ F = F.drop 14 := by unfold ipQ; rw [f2']; rfl
  have hiv : isV6 F = false := by unfold isV6; rw [f2']; rfl
  have ht2 : decide (word (F.take j) 12 = 33024) = false := by rw [wd_take (by omega)]; exact htag
  have hI := (readR_0 f3).2.2.1
  have hi2 := ip_facts (readR_0 f3).1 hI
  unfold rdI at hI
  rw [hiv] at hI
  have hI2 : r4 (F.drop 14) = 0 := by rw [← hq]; exact hI
  subst hj
  have f1c : F.length = 45 := f1
  have htk : F.take F.length = F := List.take_length
  have f5c : rdE F = 31 := f5
  have f4c : rdS F = 20 := f4
  have h6 : segR (rdP F) (rdG F) = 0 := (readR_0 f3).2.2.2
  have hP : rdP F = 17 := f6
  rw [hP] at h6
  have hsg := (segRead_Y h6).1
  have hGe := hi2.2.2.2.1
  rw [f2', f4c, f5c] at hGe
  have a0 : s4 (F.drop 14) = 20 := by have h5 := f4c; unfold rdS at h5; rw [hiv, if_neg (by simp), hq] at h5; exact h5
  have a1 : word (F.drop 14) 2 = 31 := by have h5 := f5c; unfold rdE at h5; rw [hiv, if_neg (by simp), hq] at h5; exact h5
  have a2 : byt (F.drop 14) 9 = 17 := by have h5 := hP; unfold rdP at h5; rw [hiv, if_neg (by simp), hq] at h5; exact h5
  have a3 : adr4 (F.drop 14) 12 = kSrc false n := by have h5 := f7; unfold rdSrc at h5; rw [hiv, if_neg (by simp), hq] at h5; exact h5
  have a4 : adr4 (F.drop 14) 16 = kDst false := by have h5 := f8; unfold rdDst at h5; rw [hiv, if_neg (by simp), hq] at h5; exact h5
  have hv := r4_Y hI2
  rw [a0, a1, a2, a3, a4] at hv
  refine Runs.valT0 (tFLOk F (.tup [.int .i64 14, .int .u16 2048, .int .i64 0]) (.tup [.agg ([.int .i64 20, .int .i64 31, .int .u8 17] ++ kSrc false n ++ kDst false), .int .i64 0]) (.tup [.agg ([.int .i64 31, .int .u8 17] ++ kSrc true n ++ kDst true), .int .i64 0]) (.tup [.agg [.int .u16 (word (rdG F) 0), .int .u16 (word (rdG F) 2), .int .u8 (segF 17 (rdG F))], .int .i64 0]) false) (F := 100) (n := 6) (pr := [(30, .int .i64 (F.length : Int)), (40, .bool false), (53, .bool true)]) ?_
  refine (nfFLCFTF true true n 31 (word (rdG F) 0) (word (rdG F) 2) (segF 17 (rdG F)) cut (F.length : Int) F _).trans ?_
  refine (if_pos (cdec_true.2 (hB _ _ _ (bOk_row rfl rfl rfl) rfl))).trans ?_
  refine (if_pos (decide_eq_true (by rw [wrapI64 (by omega)]; omega))).trans ?_
  refine (if_pos (⟨rfl, by rw [wrapI64 (by omega)]; exact hc⟩)).trans ?_
  refine (if_pos (decide_eq_false (by omega))).trans ?_
  refine (if_pos (beq_self_eq_true _)).trans ?_
  refine (if_pos (by simp only [capOf_f]; omega)).trans ?_
  refine (if_pos (cdec_true.2 (sayNet (bOk_cut (l := F) (L := F.take F.length) rfl rfl (by first | (simp; done) | (simp; omega)) (by simp)) (by first | (simp; done) | (simp; omega)) hn))).trans ?_
  refine (if_pos (cdec_true.2 (sayTag (bOk_cut (l := F) (L := F.take F.length) rfl rfl (by first | (simp; done) | (simp; omega)) (by simp)) (by first | (simp; done) | (simp; omega)) ht2))).trans ?_
  refine (if_pos (cdec_true.2 (sayNet (bOk_cut (l := F) (L := F.take F.length) rfl rfl (by first | (simp; done) | (simp; omega)) (by simp)) (by first | (simp; done) | (simp; omega)) hn))).trans ?_
  refine (if_pos (⟨by decide, by simp; omega⟩)).trans ?_
  refine (if_pos (cdec_true.2 (say4 (bOk_cut (l := F) (L := F.drop 14) rfl rfl (by first | (simp; done) | (simp; omega)) (by rw [List.take_of_length_le (by simp)])) (by first | (simp; done) | (simp; omega)) hv))).trans ?_
  refine (if_pos (AV.beq_self _)).trans ?_
  refine (if_pos (by show (0 : Int) ≤ 14+31 ∧ ((14+31 : Int)) ≤ _; simp only [capOf_f]; omega)).trans ?_
  refine (if_pos (by show (0 : Int) ≤ 34 ∧ (34 : Int) ≤ 14+31; omega)).trans ?_
  refine (if_pos (cdec_true.2 (saySegR (l := rdG F) (bOk_cut (l := F) rfl rfl (by show 0 + (34 : Int).toNat * 1 + ((14+31 : Int).toNat - (34 : Int).toNat) ≤ _; omega) hGe) (by show (14+31 : Int).toNat - (34 : Int).toNat ≤ _; omega) hsg))).trans ?_
  rfl

theorem flBTF (u : Bool) (n cut : Int) (j : Nat) (F : List UInt8) (f1 : F.length = frA false + frH true + (hdn u + 3)) (f2 : netR F = ((frA false : Int), (if true = true then 34525 else 2048), 0)) (f3 : readR F = 0)
    (f4 : rdS F = frH true) (f5 : rdE F = frH true + (hdn u + 3)) (f6 : rdP F = prt u) (f7 : rdSrc F = kSrc true n) (f8 : rdDst F = kDst true)
    (hB : ∀ (h : AHeap) (a : AV) (q : Nat), (bOk h a = true ∧ bOf h a = [97, 98, 99]) → h.length = q → BuildR [.agg (keyV true u n), .int .u8 0, a, .bool false, .bool false, .int .i64 0] h (slB q F) [ownB F]) (hc : cut % ((F.length : Int) + 1) = (j : Int)) (hle : j ≤ F.length) (hj : 14 ≤ j ∧ j < F.length) : ∃ h', Runs Try.prog 6 [.int .i64 n, .bool true, .bool u, .bool false, .int .i64 cut] [] (.bool true) h' := by
  have hA : frA false = 14 := rfl
  have hH : frH true ≤ 40 := by decide
  have hd : hdn u ≤ 20 := by cases u <;> decide
  have hH2 : 20 ≤ frH true := by decide
  rw [hA] at f1
  have f2' : netR F = (14, (if true = true then 34525 else 2048), 0) := f2
  have htag := tag_t f2
  obtain ⟨n1, n2⟩ := netR_take (k := j) (by rw [f2']) hle
  rw [f2'] at n1 n2
  have hn2 := n2 (by show (14 : Int) ≤ j; omega)
  have hn := netV_Y hn2
  have hq : ipQ F = F.drop 14 := by unfold ipQ; rw [f2']; rfl
  have hiv : isV6 F = true := by unfold isV6; rw [f2']; rfl
  have ht2 : decide (word (F.take j) 12 = 33024) = false := by rw [wd_take (by omega)]; exact htag
  have hI := (readR_0 f3).2.2.1
  have hi2 := ip_facts (readR_0 f3).1 hI
  unfold rdI at hI
  rw [hiv] at hI
  have hI2 : r6 (F.drop 14) = 0 := by rw [← hq]; exact hI
  have hr := r6_cut (j := j - 14) hI2 (by have h5 := f5; unfold rdE at h5; rw [hiv, if_pos rfl, hq] at h5; omega)
  have hv := (r6_N hr (by decide)).1
  refine Runs.valT0 (tFLOk F (.tup [.int .i64 14, .int .u16 34525, .int .i64 0]) (.tup [.agg ([.int .i64 0, .int .i64 0, .int .u8 0] ++ adr0 ++ adr0), .int .i64 1]) (.tup [.agg ([.int .i64 0, .int .u8 0] ++ adr0 ++ adr0), .int .i64 1]) .nilFn false) (F := 100) (n := 6) (pr := [(30, .int .i64 (j : Int)), (40, .bool false), (53, .bool false)]) ?_
  refine (nfFLBTF true u n 0 0 0 0 cut (j : Int) F _).trans ?_
  refine (if_pos (cdec_true.2 (hB _ _ _ (bOk_row rfl rfl rfl) rfl))).trans ?_
  refine (if_pos (decide_eq_true (by rw [wrapI64 (by omega)]; omega))).trans ?_
  refine (if_pos (⟨rfl, by rw [wrapI64 (by omega)]; exact hc⟩)).trans ?_
  refine (if_pos (decide_eq_false (by omega))).trans ?_
  refine (if_pos (by simp; omega)).trans ?_
  refine (if_pos (by simp only [capOf_f]; omega)).trans ?_
  refine (if_pos (cdec_true.2 (sayNet (bOk_cut (l := F) (L := F.take j) rfl rfl (by first | (simp; done) | (simp; omega)) (by simp)) (by first | (simp; done) | (simp; omega)) hn))).trans ?_
  refine (if_pos (cdec_true.2 (sayTag (bOk_cut (l := F) (L := F.take j) rfl rfl (by first | (simp; done) | (simp; omega)) (by simp)) (by first | (simp; done) | (simp; omega)) ht2))).trans ?_
  refine (if_pos (cdec_true.2 (sayNet (bOk_cut (l := F) (L := F.take j) rfl rfl (by first | (simp; done) | (simp; omega)) (by simp)) (by first | (simp; done) | (simp; omega)) hn))).trans ?_
  refine (if_pos (⟨by decide, by simp; omega⟩)).trans ?_
  refine (if_pos (cdec_true.2 (say6 (bOk_cut (l := F) (L := (F.drop 14).take (j - 14)) rfl rfl (by first | (simp; done) | (simp; omega)) (by simp)) (by first | (simp; done) | (simp; omega)) hv))).trans ?_
  rfl

theorem flCTFF (n cut : Int) (j : Nat) (F : List UInt8) (f1 : F.length = frA false + frH true + (hdn false + 3)) (f2 : netR F = ((frA false : Int), (if true = true then 34525 else 2048), 0)) (f3 : readR F = 0)
    (f4 : rdS F = frH true) (f5 : rdE F = frH true + (hdn false + 3)) (f6 : rdP F = prt false) (f7 : rdSrc F = kSrc true n) (f8 : rdDst F = kDst true)
    (hB : ∀ (h : AHeap) (a : AV) (q : Nat), (bOk h a = true ∧ bOf h a = [97, 98, 99]) → h.length = q → BuildR [.agg (keyV true false n), .int .u8 0, a, .bool false, .bool false, .int .i64 0] h (slB q F) [ownB F]) (hc : cut % ((F.length : Int) + 1) = (j : Int)) (hle : j ≤ F.length) (hj : j = F.length) : ∃ h', Runs Try.prog 6 [.int .i64 n, .bool true, .bool false, .bool false, .int .i64 cut] [] (.bool true) h' := by
  have hA : frA false = 14 := rfl
  have hH : frH true ≤ 40 := by decide
  have hd : hdn false ≤ 20 := by decide
  have hH2 : 20 ≤ frH true := by decide
  rw [hA] at f1
  have f2' : netR F = (14, (if true = true then 34525 else 2048), 0) := f2
  have htag := tag_t f2
  obtain ⟨n1, n2⟩ := netR_take (k := j) (by rw [f2']) hle
  rw [f2'] at n1 n2
  have hn2 := n2 (by show (14 : Int) ≤ j; omega)
  have hn := netV_Y hn2
  have hq : ipQ F = F.drop 14 := by unfold ipQ; rw [f2']; rfl
  have hiv : isV6 F = true := by unfold isV6; rw [f2']; rfl
  have ht2 : decide (word (F.take j) 12 = 33024) = false := by rw [wd_take (by omega)]; exact htag
  have hI := (readR_0 f3).2.2.1
  have hi2 := ip_facts (readR_0 f3).1 hI
  unfold rdI at hI
  rw [hiv] at hI
  have hI2 : r6 (F.drop 14) = 0 := by rw [← hq]; exact hI
  subst hj
  have f1c : F.length = 77 := f1
  have htk : F.take F.length = F := List.take_length
  have f5c : rdE F = 63 := f5
  have f4c : rdS F = 40 := f4
  have h6 : segR (rdP F) (rdG F) = 0 := (readR_0 f3).2.2.2
  have hP : rdP F = 6 := f6
  rw [hP] at h6
  have hsg := (segRead_Y h6).1
  have hGe := hi2.2.2.2.1
  rw [f2', f4c, f5c] at hGe
  have a1 : 40 + word (F.drop 14) 4 = 63 := by have h5 := f5c; unfold rdE at h5; rw [hiv, if_pos rfl, hq] at h5; exact h5
  have a2 : byt (F.drop 14) 6 = 6 := by have h5 := hP; unfold rdP at h5; rw [hiv, if_pos rfl, hq] at h5; exact h5
  have a3 : adr16 (F.drop 14) 8 = kSrc true n := by have h5 := f7; unfold rdSrc at h5; rw [hiv, if_pos rfl, hq] at h5; exact h5
  have a4 : adr16 (F.drop 14) 24 = kDst true := by have h5 := f8; unfold rdDst at h5; rw [hiv, if_pos rfl, hq] at h5; exact h5
  have hv := (r6_Y hI2).1
  rw [a1, a2, a3, a4] at hv
  refine Runs.valT0 (tFLOk F (.tup [.int .i64 14, .int .u16 34525, .int .i64 0]) (.tup [.agg ([.int .i64 20, .int .i64 63, .int .u8 6] ++ kSrc false n ++ kDst false), .int .i64 0]) (.tup [.agg ([.int .i64 63, .int .u8 6] ++ kSrc true n ++ kDst true), .int .i64 0]) (.tup [.agg [.int .u16 (word (rdG F) 0), .int .u16 (word (rdG F) 2), .int .u8 (segF 6 (rdG F))], .int .i64 0]) false) (F := 100) (n := 6) (pr := [(30, .int .i64 (F.length : Int)), (40, .bool false), (53, .bool true)]) ?_
  refine (nfFLCTFF true true n 63 (word (rdG F) 0) (word (rdG F) 2) (segF 6 (rdG F)) cut (F.length : Int) F _).trans ?_
  refine (if_pos (cdec_true.2 (hB _ _ _ (bOk_row rfl rfl rfl) rfl))).trans ?_
  refine (if_pos (decide_eq_true (by rw [wrapI64 (by omega)]; omega))).trans ?_
  refine (if_pos (⟨rfl, by rw [wrapI64 (by omega)]; exact hc⟩)).trans ?_
  refine (if_pos (decide_eq_false (by omega))).trans ?_
  refine (if_pos (beq_self_eq_true _)).trans ?_
  refine (if_pos (by simp only [capOf_f]; omega)).trans ?_
  refine (if_pos (cdec_true.2 (sayNet (bOk_cut (l := F) (L := F.take F.length) rfl rfl (by first | (simp; done) | (simp; omega)) (by simp)) (by first | (simp; done) | (simp; omega)) hn))).trans ?_
  refine (if_pos (cdec_true.2 (sayTag (bOk_cut (l := F) (L := F.take F.length) rfl rfl (by first | (simp; done) | (simp; omega)) (by simp)) (by first | (simp; done) | (simp; omega)) ht2))).trans ?_
  refine (if_pos (cdec_true.2 (sayNet (bOk_cut (l := F) (L := F.take F.length) rfl rfl (by first | (simp; done) | (simp; omega)) (by simp)) (by first | (simp; done) | (simp; omega)) hn))).trans ?_
  refine (if_pos (⟨by decide, by simp; omega⟩)).trans ?_
  refine (if_pos (cdec_true.2 (say6 (bOk_cut (l := F) (L := F.drop 14) rfl rfl (by first | (simp; done) | (simp; omega)) (by rw [List.take_of_length_le (by simp)])) (by first | (simp; done) | (simp; omega)) hv))).trans ?_
  refine (if_pos (AV.beq_self _)).trans ?_
  refine (if_pos (by show (0 : Int) ≤ 14+63 ∧ ((14+63 : Int)) ≤ _; simp only [capOf_f]; omega)).trans ?_
  refine (if_pos (by show (0 : Int) ≤ 54 ∧ (54 : Int) ≤ 14+63; omega)).trans ?_
  refine (if_pos (cdec_true.2 (saySegR (l := rdG F) (bOk_cut (l := F) rfl rfl (by show 0 + (54 : Int).toNat * 1 + ((14+63 : Int).toNat - (54 : Int).toNat) ≤ _; omega) hGe) (by show (14+63 : Int).toNat - (54 : Int).toNat ≤ _; omega) hsg))).trans ?_
  rfl

theorem flCTTF (n cut : Int) (j : Nat) (F : List UInt8) (f1 : F.length = frA false + frH true + (hdn true + 3)) (f2 : netR F = ((frA false : Int), (if true = true then 34525 else 2048), 0)) (f3 : readR F = 0)
    (f4 : rdS F = frH true) (f5 : rdE F = frH true + (hdn true + 3)) (f6 : rdP F = prt true) (f7 : rdSrc F = kSrc true n) (f8 : rdDst F = kDst true)
    (hB : ∀ (h : AHeap) (a : AV) (q : Nat), (bOk h a = true ∧ bOf h a = [97, 98, 99]) → h.length = q → BuildR [.agg (keyV true true n), .int .u8 0, a, .bool false, .bool false, .int .i64 0] h (slB q F) [ownB F]) (hc : cut % ((F.length : Int) + 1) = (j : Int)) (hle : j ≤ F.length) (hj : j = F.length) : ∃ h', Runs Try.prog 6 [.int .i64 n, .bool true, .bool true, .bool false, .int .i64 cut] [] (.bool true) h' := by
  have hA : frA false = 14 := rfl
  have hH : frH true ≤ 40 := by decide
  have hd : hdn true ≤ 20 := by decide
  have hH2 : 20 ≤ frH true := by decide
  rw [hA] at f1
  have f2' : netR F = (14, (if true = true then 34525 else 2048), 0) := f2
  have htag := tag_t f2
  obtain ⟨n1, n2⟩ := netR_take (k := j) (by rw [f2']) hle
  rw [f2'] at n1 n2
  have hn2 := n2 (by show (14 : Int) ≤ j; omega)
  have hn := netV_Y hn2
  have hq : ipQ F = F.drop 14 := by unfold ipQ; rw [f2']; rfl
  have hiv : isV6 F = true := by unfold isV6; rw [f2']; rfl
  have ht2 : decide (word (F.take j) 12 = 33024) = false := by rw [wd_take (by omega)]; exact htag
  have hI := (readR_0 f3).2.2.1
  have hi2 := ip_facts (readR_0 f3).1 hI
  unfold rdI at hI
  rw [hiv] at hI
  have hI2 : r6 (F.drop 14) = 0 := by rw [← hq]; exact hI
  subst hj
  have f1c : F.length = 65 := f1
  have htk : F.take F.length = F := List.take_length
  have f5c : rdE F = 51 := f5
  have f4c : rdS F = 40 := f4
  have h6 : segR (rdP F) (rdG F) = 0 := (readR_0 f3).2.2.2
  have hP : rdP F = 17 := f6
  rw [hP] at h6
  have hsg := (segRead_Y h6).1
  have hGe := hi2.2.2.2.1
  rw [f2', f4c, f5c] at hGe
  have a1 : 40 + word (F.drop 14) 4 = 51 := by have h5 := f5c; unfold rdE at h5; rw [hiv, if_pos rfl, hq] at h5; exact h5
  have a2 : byt (F.drop 14) 6 = 17 := by have h5 := hP; unfold rdP at h5; rw [hiv, if_pos rfl, hq] at h5; exact h5
  have a3 : adr16 (F.drop 14) 8 = kSrc true n := by have h5 := f7; unfold rdSrc at h5; rw [hiv, if_pos rfl, hq] at h5; exact h5
  have a4 : adr16 (F.drop 14) 24 = kDst true := by have h5 := f8; unfold rdDst at h5; rw [hiv, if_pos rfl, hq] at h5; exact h5
  have hv := (r6_Y hI2).1
  rw [a1, a2, a3, a4] at hv
  refine Runs.valT0 (tFLOk F (.tup [.int .i64 14, .int .u16 34525, .int .i64 0]) (.tup [.agg ([.int .i64 20, .int .i64 51, .int .u8 17] ++ kSrc false n ++ kDst false), .int .i64 0]) (.tup [.agg ([.int .i64 51, .int .u8 17] ++ kSrc true n ++ kDst true), .int .i64 0]) (.tup [.agg [.int .u16 (word (rdG F) 0), .int .u16 (word (rdG F) 2), .int .u8 (segF 17 (rdG F))], .int .i64 0]) false) (F := 100) (n := 6) (pr := [(30, .int .i64 (F.length : Int)), (40, .bool false), (53, .bool true)]) ?_
  refine (nfFLCTTF true true n 51 (word (rdG F) 0) (word (rdG F) 2) (segF 17 (rdG F)) cut (F.length : Int) F _).trans ?_
  refine (if_pos (cdec_true.2 (hB _ _ _ (bOk_row rfl rfl rfl) rfl))).trans ?_
  refine (if_pos (decide_eq_true (by rw [wrapI64 (by omega)]; omega))).trans ?_
  refine (if_pos (⟨rfl, by rw [wrapI64 (by omega)]; exact hc⟩)).trans ?_
  refine (if_pos (decide_eq_false (by omega))).trans ?_
  refine (if_pos (beq_self_eq_true _)).trans ?_
  refine (if_pos (by simp only [capOf_f]; omega)).trans ?_
  refine (if_pos (cdec_true.2 (sayNet (bOk_cut (l := F) (L := F.take F.length) rfl rfl (by first | (simp; done) | (simp; omega)) (by simp)) (by first | (simp; done) | (simp; omega)) hn))).trans ?_
  refine (if_pos (cdec_true.2 (sayTag (bOk_cut (l := F) (L := F.take F.length) rfl rfl (by first | (simp; done) | (simp; omega)) (by simp)) (by first | (simp; done) | (simp; omega)) ht2))).trans ?_
  refine (if_pos (cdec_true.2 (sayNet (bOk_cut (l := F) (L := F.take F.length) rfl rfl (by first | (simp; done) | (simp; omega)) (by simp)) (by first | (simp; done) | (simp; omega)) hn))).trans ?_
  refine (if_pos (⟨by decide, by simp; omega⟩)).trans ?_
  refine (if_pos (cdec_true.2 (say6 (bOk_cut (l := F) (L := F.drop 14) rfl rfl (by first | (simp; done) | (simp; omega)) (by rw [List.take_of_length_le (by simp)])) (by first | (simp; done) | (simp; omega)) hv))).trans ?_
  refine (if_pos (AV.beq_self _)).trans ?_
  refine (if_pos (by show (0 : Int) ≤ 14+51 ∧ ((14+51 : Int)) ≤ _; simp only [capOf_f]; omega)).trans ?_
  refine (if_pos (by show (0 : Int) ≤ 54 ∧ (54 : Int) ≤ 14+51; omega)).trans ?_
  refine (if_pos (cdec_true.2 (saySegR (l := rdG F) (bOk_cut (l := F) rfl rfl (by show 0 + (54 : Int).toNat * 1 + ((14+51 : Int).toNat - (54 : Int).toNat) ≤ _; omega) hGe) (by show (14+51 : Int).toNat - (54 : Int).toNat ≤ _; omega) hsg))).trans ?_
  rfl

theorem flAT (v u : Bool) (n cut : Int) (j : Nat) (F : List UInt8) (f1 : F.length = frA true + frH v + (hdn u + 3)) (f2 : netR F = ((frA true : Int), (if v = true then 34525 else 2048), 0)) (f3 : readR F = 0)
    (f4 : rdS F = frH v) (f5 : rdE F = frH v + (hdn u + 3)) (f6 : rdP F = prt u) (f7 : rdSrc F = kSrc v n) (f8 : rdDst F = kDst v)
    (hB : ∀ (h : AHeap) (a : AV) (q : Nat), (bOk h a = true ∧ bOf h a = [97, 98, 99]) → h.length = q → BuildR [.agg (keyV v u n), .int .u8 0, a, .bool true, .bool false, .int .i64 0] h (slB q F) [ownB F]) (hc : cut % ((F.length : Int) + 1) = (j : Int)) (hle : j ≤ F.length) (hj : j < 18) : ∃ h', Runs Try.prog 6 [.int .i64 n, .bool v, .bool u, .bool true, .int .i64 cut] [] (.bool true) h' := by
  have hA : frA true = 18 := rfl
  have hH : frH v ≤ 40 := by cases v <;> decide
  have hd : hdn u ≤ 20 := by cases u <;> decide
  have hH2 : 20 ≤ frH v := by cases v <;> decide
  rw [hA] at f1
  have f2' : netR F = (18, (if v = true then 34525 else 2048), 0) := f2
  have htag := tag_t f2
  obtain ⟨n1, n2⟩ := netR_take (k := j) (by rw [f2']) hle
  rw [f2'] at n1 n2
  have hn := netV_N (n1 (by show (j : Int) < 18; omega)) (by decide)
  refine Runs.valT0 (tFLOk F (.tup [.int .i64 0, .int .u16 0, .int .i64 1]) .nilFn .nilFn .nilFn true) (F := 100) (n := 6) (pr := [(30, .int .i64 (j : Int)), (40, .bool true)]) ?_
  refine (nfFLAT v u n 0 0 0 0 cut (j : Int) F _).trans ?_
  refine (if_pos (cdec_true.2 (hB _ _ _ (bOk_row rfl rfl rfl) rfl))).trans ?_
  refine (if_pos (decide_eq_true (by rw [wrapI64 (by omega)]; omega))).trans ?_
  refine (if_pos (⟨rfl, by rw [wrapI64 (by omega)]; exact hc⟩)).trans ?_
  refine (if_pos (decide_eq_true (by omega))).trans ?_
  refine (if_pos (by simp only [capOf_f]; omega)).trans ?_
  refine (if_pos (cdec_true.2 (sayNet (bOk_cut (l := F) (L := F.take j) rfl rfl (by first | (simp; done) | (simp; omega)) (by simp)) (by first | (simp; done) | (simp; omega)) hn))).trans ?_
  rfl

theorem flBFT (u : Bool) (n cut : Int) (j : Nat) (F : List UInt8) (f1 : F.length = frA true + frH false + (hdn u + 3)) (f2 : netR F = ((frA true : Int), (if false = true then 34525 else 2048), 0)) (f3 : readR F = 0)
    (f4 : rdS F = frH false) (f5 : rdE F = frH false + (hdn u + 3)) (f6 : rdP F = prt u) (f7 : rdSrc F = kSrc false n) (f8 : rdDst F = kDst false)
    (hB : ∀ (h : AHeap) (a : AV) (q : Nat), (bOk h a = true ∧ bOf h a = [97, 98, 99]) → h.length = q → BuildR [.agg (keyV false u n), .int .u8 0, a, .bool true, .bool false, .int .i64 0] h (slB q F) [ownB F]) (hc : cut % ((F.length : Int) + 1) = (j : Int)) (hle : j ≤ F.length) (hj : 18 ≤ j ∧ j < F.length) : ∃ h', Runs Try.prog 6 [.int .i64 n, .bool false, .bool u, .bool true, .int .i64 cut] [] (.bool true) h' := by
  have hA : frA true = 18 := rfl
  have hH : frH false ≤ 40 := by decide
  have hd : hdn u ≤ 20 := by cases u <;> decide
  have hH2 : 20 ≤ frH false := by decide
  rw [hA] at f1
  have f2' : netR F = (18, (if false = true then 34525 else 2048), 0) := f2
  have htag := tag_t f2
  obtain ⟨n1, n2⟩ := netR_take (k := j) (by rw [f2']) hle
  rw [f2'] at n1 n2
  have hn2 := n2 (by show (18 : Int) ≤ j; omega)
  have hn := netV_Y hn2
  have hq : ipQ F = F.drop 18 := by unfold ipQ; rw [f2']; rfl
  have hiv : isV6 F = false := by unfold isV6; rw [f2']; rfl
  have ht2 : decide (word (F.take j) 12 = 33024) = true := by rw [wd_take (by omega)]; exact htag
  have hI := (readR_0 f3).2.2.1
  have hi2 := ip_facts (readR_0 f3).1 hI
  unfold rdI at hI
  rw [hiv] at hI
  have hI2 : r4 (F.drop 18) = 0 := by rw [← hq]; exact hI
  have hr := r4_cut (j := j - 18) hI2 (by have h5 := f5; unfold rdE at h5; rw [hiv, if_neg (by simp), hq] at h5; omega)
  have hv := r4_N hr (by decide)
  refine Runs.valT0 (tFLOk F (.tup [.int .i64 18, .int .u16 2048, .int .i64 0]) (.tup [.agg ([.int .i64 0, .int .i64 0, .int .u8 0] ++ adr0 ++ adr0), .int .i64 1]) (.tup [.agg ([.int .i64 0, .int .u8 0] ++ adr0 ++ adr0), .int .i64 1]) .nilFn true) (F := 100) (n := 6) (pr := [(30, .int .i64 (j : Int)), (40, .bool false), (53, .bool false)]) ?_
  refine (nfFLBFT true u n 0 0 0 0 cut (j : Int) F _).trans ?_
  refine (if_pos (cdec_true.2 (hB _ _ _ (bOk_row rfl rfl rfl) rfl))).trans ?_
  refine (if_pos (decide_eq_true (by rw [wrapI64 (by omega)]; omega))).trans ?_
  refine (if_pos (⟨rfl, by rw [wrapI64 (by omega)]; exact hc⟩)).trans ?_
  refine (if_pos (decide_eq_false (by omega))).trans ?_
  refine (if_pos (by simp; omega)).trans ?_
  refine (if_pos (by simp only [capOf_f]; omega)).trans ?_
  refine (if_pos (cdec_true.2 (sayNet (bOk_cut (l := F) (L := F.take j) rfl rfl (by first | (simp; done) | (simp; omega)) (by simp)) (by first | (simp; done) | (simp; omega)) hn))).trans ?_
  refine (if_pos (cdec_true.2 (sayTag (bOk_cut (l := F) (L := F.take j) rfl rfl (by first | (simp; done) | (simp; omega)) (by simp)) (by first | (simp; done) | (simp; omega)) ht2))).trans ?_
  refine (if_pos (cdec_true.2 (sayNet (bOk_cut (l := F) (L := F.take j) rfl rfl (by first | (simp; done) | (simp; omega)) (by simp)) (by first | (simp; done) | (simp; omega)) hn))).trans ?_
  refine (if_pos (⟨by decide, by simp; omega⟩)).trans ?_
  refine (if_pos (cdec_true.2 (say4 (bOk_cut (l := F) (L := (F.drop 18).take (j - 18)) rfl rfl (by first | (simp; done) | (simp; omega)) (by simp)) (by first | (simp; done) | (simp; omega)) hv))).trans ?_
  rfl

theorem flCFFT (n cut : Int) (j : Nat) (F : List UInt8) (f1 : F.length = frA true + frH false + (hdn false + 3)) (f2 : netR F = ((frA true : Int), (if false = true then 34525 else 2048), 0)) (f3 : readR F = 0)
    (f4 : rdS F = frH false) (f5 : rdE F = frH false + (hdn false + 3)) (f6 : rdP F = prt false) (f7 : rdSrc F = kSrc false n) (f8 : rdDst F = kDst false)
    (hB : ∀ (h : AHeap) (a : AV) (q : Nat), (bOk h a = true ∧ bOf h a = [97, 98, 99]) → h.length = q → BuildR [.agg (keyV false false n), .int .u8 0, a, .bool true, .bool false, .int .i64 0] h (slB q F) [ownB F]) (hc : cut % ((F.length : Int) + 1) = (j : Int)) (hle : j ≤ F.length) (hj : j = F.length) : ∃ h', Runs Try.prog 6 [.int .i64 n, .bool false, .bool false, .bool true, .int .i64 cut] [] (.bool true) h' := by
  have hA : frA true = 18 := rfl
  have hH : frH false ≤ 40 := by decide
  have hd : hdn false ≤ 20 := by decide
  have hH2 : 20 ≤ frH false := by decide
  rw [hA] at f1
  have f2' : netR F = (18, (if false = true then 34525 else 2048), 0) := f2
  have htag := tag_t f2
  obtain ⟨n1, n2⟩ := netR_take (k := j) (by rw [f2']) hle
  rw [f2'] at n1 n2
  have hn2 := n2 (by show (18 : Int) ≤ j; omega)
  have hn := netV_Y hn2
  have hq : ipQ F = F.drop 18 := by unfold ipQ; rw [f2']; rfl
  have hiv : isV6 F = false := by unfold isV6; rw [f2']; rfl
  have ht2 : decide (word (F.take j) 12 = 33024) = true := by rw [wd_take (by omega)]; exact htag
  have hI := (readR_0 f3).2.2.1
  have hi2 := ip_facts (readR_0 f3).1 hI
  unfold rdI at hI
  rw [hiv] at hI
  have hI2 : r4 (F.drop 18) = 0 := by rw [← hq]; exact hI
  subst hj
  have f1c : F.length = 61 := f1
  have htk : F.take F.length = F := List.take_length
  have f5c : rdE F = 43 := f5
  have f4c : rdS F = 20 := f4
  have h6 : segR (rdP F) (rdG F) = 0 := (readR_0 f3).2.2.2
  have hP : rdP F = 6 := f6
  rw [hP] at h6
  have hsg := (segRead_Y h6).1
  have hGe := hi2.2.2.2.1
  rw [f2', f4c, f5c] at hGe
  have a0 : s4 (F.drop 18) = 20 := by have h5 := f4c; unfold rdS at h5; rw [hiv, if_neg (by simp), hq] at h5; exact h5
  have a1 : word (F.drop 18) 2 = 43 := by have h5 := f5c; unfold rdE at h5; rw [hiv, if_neg (by simp), hq] at h5; exact h5
  have a2 : byt (F.drop 18) 9 = 6 := by have h5 := hP; unfold rdP at h5; rw [hiv, if_neg (by simp), hq] at h5; exact h5
  have a3 : adr4 (F.drop 18) 12 = kSrc false n := by have h5 := f7; unfold rdSrc at h5; rw [hiv, if_neg (by simp), hq] at h5; exact h5
  have a4 : adr4 (F.drop 18) 16 = kDst false := by have h5 := f8; unfold rdDst at h5; rw [hiv, if_neg (by simp), hq] at h5; exact h5
  have hv := r4_Y hI2
  rw [a0, a1, a2, a3, a4] at hv
  refine Runs.valT0 (tFLOk F (.tup [.int .i64 18, .int .u16 2048, .int .i64 0]) (.tup [.agg ([.int .i64 20, .int .i64 43, .int .u8 6] ++ kSrc false n ++ kDst false), .int .i64 0]) (.tup [.agg ([.int .i64 43, .int .u8 6] ++ kSrc true n ++ kDst true), .int .i64 0]) (.tup [.agg [.int .u16 (word (rdG F) 0), .int .u16 (word (rdG F) 2), .int .u8 (segF 6 (rdG F))], .int .i64 0]) true) (F := 100) (n := 6) (pr := [(30, .int .i64 (F.length : Int)), (40, .bool false), (53, .bool true)]) ?_
  refine (nfFLCFFT true true n 43 (word (rdG F) 0) (word (rdG F) 2) (segF 6 (rdG F)) cut (F.length : Int) F _).trans ?_
  refine (if_pos (cdec_true.2 (hB _ _ _ (bOk_row rfl rfl rfl) rfl))).trans ?_
  refine (if_pos (decide_eq_true (by rw [wrapI64 (by omega)]; omega))).trans ?_
  refine (if_pos (⟨rfl, by rw [wrapI64 (by omega)]; exact hc⟩)).trans ?_
  refine (if_pos (decide_eq_false (by omega))).trans ?_
  refine (if_pos (beq_self_eq_true _)).trans ?_
  refine (if_pos (by simp only [capOf_f]; omega)).trans ?_
  refine (if_pos (cdec_true.2 (sayNet (bOk_cut (l := F) (L := F.take F.length) rfl rfl (by first | (simp; done) | (simp; omega)) (by simp)) (by first | (simp; done) | (simp; omega)) hn))).trans ?_
  refine (if_pos (cdec_true.2 (sayTag (bOk_cut (l := F) (L := F.take F.length) rfl rfl (by first | (simp; done) | (simp; omega)) (by simp)) (by first | (simp; done) | (simp; omega)) ht2))).trans ?_
  refine (if_pos (cdec_true.2 (sayNet (bOk_cut (l := F) (L := F.take F.length) rfl rfl (by first | (simp; done) | (simp; omega)) (by simp)) (by first | (simp; done) | (simp; omega)) hn))).trans ?_
  refine (if_pos (⟨by decide, by simp; omega⟩)).trans ?_
  refine (if_pos (cdec_true.2 (say4 (bOk_cut (l := F) (L := F.drop 18) rfl rfl (by first | (simp; done) | (simp; omega)) (by rw [List.take_of_length_le (by simp)])) (by first | (simp; done) | (simp; omega)) hv))).trans ?_
  refine (if_pos (AV.beq_self _)).trans ?_
  refine (if_pos (by show (0 : Int) ≤ 18+43 ∧ ((18+43 : Int)) ≤ _; simp only [capOf_f]; omega)).trans ?_
  refine (if_pos (by show (0 : Int) ≤ 38 ∧ (38 : Int) ≤ 18+43; omega)).trans ?_
  refine (if_pos (cdec_true.2 (saySegR (l := rdG F) (bOk_cut (l := F) rfl rfl (by show 0 + (38 : Int).toNat * 1 + ((18+43 : Int).toNat - (38 : Int).toNat) ≤ _; omega) hGe) (by show (18+43 : Int).toNat - (38 : Int).toNat ≤ _; omega) hsg))).trans ?_
  rfl

theorem flCFTT (n cut : Int) (j : Nat) (F : List UInt8) (f1 : F.length = frA true + frH false + (hdn true + 3)) (f2 : netR F = ((frA true : Int), (if false = true then 34525 else 2048), 0)) (f3 : readR F = 0)
    (f4 : rdS F = frH false) (f5 : rdE F = frH false + (hdn true + 3)) (f6 : rdP F = prt true) (f7 : rdSrc F = kSrc false n) (f8 : rdDst F = kDst false)
    (hB : ∀ (h : AHeap) (a : AV) (q : Nat), (bOk h a = true ∧ bOf h a = [97, 98, 99]) → h.length = q → BuildR [.agg (keyV false true n), .int .u8 0, a, .bool true, .bool false, .int .i64 0] h (slB q F) [ownB F]) (hc : cut % ((F.length : Int) + 1) = (j : Int)) (hle : j ≤ F.length) (hj : j = F.length) : ∃ h', Runs Try.prog 6 [.int .i64 n, .bool false, .bool true, .bool true, .int .i64 cut] [] (.bool true) h' := by
  have hA : frA true = 18 := rfl
  have hH : frH false ≤ 40 := by decide
  have hd : hdn true ≤ 20 := by decide
  have hH2 : 20 ≤ frH false := by decide
  rw [hA] at f1
  have f2' : netR F = (18, (if false = true then 34525 else 2048), 0) := f2
  have htag := tag_t f2
  obtain ⟨n1, n2⟩ := netR_take (k := j) (by rw [f2']) hle
  rw [f2'] at n1 n2
  have hn2 := n2 (by show (18 : Int) ≤ j; omega)
  have hn := netV_Y hn2
  have hq : ipQ F = F.drop 18 := by unfold ipQ; rw [f2']; rfl
  have hiv : isV6 F = false := by unfold isV6; rw [f2']; rfl
  have ht2 : decide (word (F.take j) 12 = 33024) = true := by rw [wd_take (by omega)]; exact htag
  have hI := (readR_0 f3).2.2.1
  have hi2 := ip_facts (readR_0 f3).1 hI
  unfold rdI at hI
  rw [hiv] at hI
  have hI2 : r4 (F.drop 18) = 0 := by rw [← hq]; exact hI
  subst hj
  have f1c : F.length = 49 := f1
  have htk : F.take F.length = F := List.take_length
  have f5c : rdE F = 31 := f5
  have f4c : rdS F = 20 := f4
  have h6 : segR (rdP F) (rdG F) = 0 := (readR_0 f3).2.2.2
  have hP : rdP F = 17 := f6
  rw [hP] at h6
  have hsg := (segRead_Y h6).1
  have hGe := hi2.2.2.2.1
  rw [f2', f4c, f5c] at hGe
  have a0 : s4 (F.drop 18) = 20 := by have h5 := f4c; unfold rdS at h5; rw [hiv, if_neg (by simp), hq] at h5; exact h5
  have a1 : word (F.drop 18) 2 = 31 := by have h5 := f5c; unfold rdE at h5; rw [hiv, if_neg (by simp), hq] at h5; exact h5
  have a2 : byt (F.drop 18) 9 = 17 := by have h5 := hP; unfold rdP at h5; rw [hiv, if_neg (by simp), hq] at h5; exact h5
  have a3 : adr4 (F.drop 18) 12 = kSrc false n := by have h5 := f7; unfold rdSrc at h5; rw [hiv, if_neg (by simp), hq] at h5; exact h5
  have a4 : adr4 (F.drop 18) 16 = kDst false := by have h5 := f8; unfold rdDst at h5; rw [hiv, if_neg (by simp), hq] at h5; exact h5
  have hv := r4_Y hI2
  rw [a0, a1, a2, a3, a4] at hv
  refine Runs.valT0 (tFLOk F (.tup [.int .i64 18, .int .u16 2048, .int .i64 0]) (.tup [.agg ([.int .i64 20, .int .i64 31, .int .u8 17] ++ kSrc false n ++ kDst false), .int .i64 0]) (.tup [.agg ([.int .i64 31, .int .u8 17] ++ kSrc true n ++ kDst true), .int .i64 0]) (.tup [.agg [.int .u16 (word (rdG F) 0), .int .u16 (word (rdG F) 2), .int .u8 (segF 17 (rdG F))], .int .i64 0]) true) (F := 100) (n := 6) (pr := [(30, .int .i64 (F.length : Int)), (40, .bool false), (53, .bool true)]) ?_
  refine (nfFLCFTT true true n 31 (word (rdG F) 0) (word (rdG F) 2) (segF 17 (rdG F)) cut (F.length : Int) F _).trans ?_
  refine (if_pos (cdec_true.2 (hB _ _ _ (bOk_row rfl rfl rfl) rfl))).trans ?_
  refine (if_pos (decide_eq_true (by rw [wrapI64 (by omega)]; omega))).trans ?_
  refine (if_pos (⟨rfl, by rw [wrapI64 (by omega)]; exact hc⟩)).trans ?_
  refine (if_pos (decide_eq_false (by omega))).trans ?_
  refine (if_pos (beq_self_eq_true _)).trans ?_
  refine (if_pos (by simp only [capOf_f]; omega)).trans ?_
  refine (if_pos (cdec_true.2 (sayNet (bOk_cut (l := F) (L := F.take F.length) rfl rfl (by first | (simp; done) | (simp; omega)) (by simp)) (by first | (simp; done) | (simp; omega)) hn))).trans ?_
  refine (if_pos (cdec_true.2 (sayTag (bOk_cut (l := F) (L := F.take F.length) rfl rfl (by first | (simp; done) | (simp; omega)) (by simp)) (by first | (simp; done) | (simp; omega)) ht2))).trans ?_
  refine (if_pos (cdec_true.2 (sayNet (bOk_cut (l := F) (L := F.take F.length) rfl rfl (by first | (simp; done) | (simp; omega)) (by simp)) (by first | (simp; done) | (simp; omega)) hn))).trans ?_
  refine (if_pos (⟨by decide, by simp; omega⟩)).trans ?_
  refine (if_pos (cdec_true.2 (say4 (bOk_cut (l := F) (L := F.drop 18) rfl rfl (by first | (simp; done) | (simp; omega)) (by rw [List.take_of_length_le (by simp)])) (by first | (simp; done) | (simp; omega)) hv))).trans ?_
  refine (if_pos (AV.beq_self _)).trans ?_
  refine (if_pos (by show (0 : Int) ≤ 18+31 ∧ ((18+31 : Int)) ≤ _; simp only [capOf_f]; omega)).trans ?_
  refine (if_pos (by show (0 : Int) ≤ 38 ∧ (38 : Int) ≤ 18+31; omega)).trans ?_
  refine (if_pos (cdec_true.2 (saySegR (l := rdG F) (bOk_cut (l := F) rfl rfl (by show 0 + (38 : Int).toNat * 1 + ((18+31 : Int).toNat - (38 : Int).toNat) ≤ _; omega) hGe) (by show (18+31 : Int).toNat - (38 : Int).toNat ≤ _; omega) hsg))).trans ?_
  rfl

theorem flBTT (u : Bool) (n cut : Int) (j : Nat) (F : List UInt8) (f1 : F.length = frA true + frH true + (hdn u + 3)) (f2 : netR F = ((frA true : Int), (if true = true then 34525 else 2048), 0)) (f3 : readR F = 0)
    (f4 : rdS F = frH true) (f5 : rdE F = frH true + (hdn u + 3)) (f6 : rdP F = prt u) (f7 : rdSrc F = kSrc true n) (f8 : rdDst F = kDst true)
    (hB : ∀ (h : AHeap) (a : AV) (q : Nat), (bOk h a = true ∧ bOf h a = [97, 98, 99]) → h.length = q → BuildR [.agg (keyV true u n), .int .u8 0, a, .bool true, .bool false, .int .i64 0] h (slB q F) [ownB F]) (hc : cut % ((F.length : Int) + 1) = (j : Int)) (hle : j ≤ F.length) (hj : 18 ≤ j ∧ j < F.length) : ∃ h', Runs Try.prog 6 [.int .i64 n, .bool true, .bool u, .bool true, .int .i64 cut] [] (.bool true) h' := by
  have hA : frA true = 18 := rfl
  have hH : frH true ≤ 40 := by decide
  have hd : hdn u ≤ 20 := by cases u <;> decide
  have hH2 : 20 ≤ frH true := by decide
  rw [hA] at f1
  have f2' : netR F = (18, (if true = true then 34525 else 2048), 0) := f2
  have htag := tag_t f2
  obtain ⟨n1, n2⟩ := netR_take (k := j) (by rw [f2']) hle
  rw [f2'] at n1 n2
  have hn2 := n2 (by show (18 : Int) ≤ j; omega)
  have hn := netV_Y hn2
  have hq : ipQ F = F.drop 18 := by unfold ipQ; rw [f2']; rfl
  have hiv : isV6 F = true := by unfold isV6; rw [f2']; rfl
  have ht2 : decide (word (F.take j) 12 = 33024) = true := by rw [wd_take (by omega)]; exact htag
  have hI := (readR_0 f3).2.2.1
  have hi2 := ip_facts (readR_0 f3).1 hI
  unfold rdI at hI
  rw [hiv] at hI
  have hI2 : r6 (F.drop 18) = 0 := by rw [← hq]; exact hI
  have hr := r6_cut (j := j - 18) hI2 (by have h5 := f5; unfold rdE at h5; rw [hiv, if_pos rfl, hq] at h5; omega)
  have hv := (r6_N hr (by decide)).1
  refine Runs.valT0 (tFLOk F (.tup [.int .i64 18, .int .u16 34525, .int .i64 0]) (.tup [.agg ([.int .i64 0, .int .i64 0, .int .u8 0] ++ adr0 ++ adr0), .int .i64 1]) (.tup [.agg ([.int .i64 0, .int .u8 0] ++ adr0 ++ adr0), .int .i64 1]) .nilFn true) (F := 100) (n := 6) (pr := [(30, .int .i64 (j : Int)), (40, .bool false), (53, .bool false)]) ?_
  refine (nfFLBTT true u n 0 0 0 0 cut (j : Int) F _).trans ?_
  refine (if_pos (cdec_true.2 (hB _ _ _ (bOk_row rfl rfl rfl) rfl))).trans ?_
  refine (if_pos (decide_eq_true (by rw [wrapI64 (by omega)]; omega))).trans ?_
  refine (if_pos (⟨rfl, by rw [wrapI64 (by omega)]; exact hc⟩)).trans ?_
  refine (if_pos (decide_eq_false (by omega))).trans ?_
  refine (if_pos (by simp; omega)).trans ?_
  refine (if_pos (by simp only [capOf_f]; omega)).trans ?_
  refine (if_pos (cdec_true.2 (sayNet (bOk_cut (l := F) (L := F.take j) rfl rfl (by first | (simp; done) | (simp; omega)) (by simp)) (by first | (simp; done) | (simp; omega)) hn))).trans ?_
  refine (if_pos (cdec_true.2 (sayTag (bOk_cut (l := F) (L := F.take j) rfl rfl (by first | (simp; done) | (simp; omega)) (by simp)) (by first | (simp; done) | (simp; omega)) ht2))).trans ?_
  refine (if_pos (cdec_true.2 (sayNet (bOk_cut (l := F) (L := F.take j) rfl rfl (by first | (simp; done) | (simp; omega)) (by simp)) (by first | (simp; done) | (simp; omega)) hn))).trans ?_
  refine (if_pos (⟨by decide, by simp; omega⟩)).trans ?_
  refine (if_pos (cdec_true.2 (say6 (bOk_cut (l := F) (L := (F.drop 18).take (j - 18)) rfl rfl (by first | (simp; done) | (simp; omega)) (by simp)) (by first | (simp; done) | (simp; omega)) hv))).trans ?_
  rfl

theorem flCTFT (n cut : Int) (j : Nat) (F : List UInt8) (f1 : F.length = frA true + frH true + (hdn false + 3)) (f2 : netR F = ((frA true : Int), (if true = true then 34525 else 2048), 0)) (f3 : readR F = 0)
    (f4 : rdS F = frH true) (f5 : rdE F = frH true + (hdn false + 3)) (f6 : rdP F = prt false) (f7 : rdSrc F = kSrc true n) (f8 : rdDst F = kDst true)
    (hB : ∀ (h : AHeap) (a : AV) (q : Nat), (bOk h a = true ∧ bOf h a = [97, 98, 99]) → h.length = q → BuildR [.agg (keyV true false n), .int .u8 0, a, .bool true, .bool false, .int .i64 0] h (slB q F) [ownB F]) (hc : cut % ((F.length : Int) + 1) = (j : Int)) (hle : j ≤ F.length) (hj : j = F.length) : ∃ h', Runs Try.prog 6 [.int .i64 n, .bool true, .bool false, .bool true, .int .i64 cut] [] (.bool true) h' := by
  have hA : frA true = 18 := rfl
  have hH : frH true ≤ 40 := by decide
  have hd : hdn false ≤ 20 := by decide
  have hH2 : 20 ≤ frH true := by decide
  rw [hA] at f1
  have f2' : netR F = (18, (if true = true then 34525 else 2048), 0) := f2
  have htag := tag_t f2
  obtain ⟨n1, n2⟩ := netR_take (k := j) (by rw [f2']) hle
  rw [f2'] at n1 n2
  have hn2 := n2 (by show (18 : Int) ≤ j; omega)
  have hn := netV_Y hn2
  have hq : ipQ F = F.drop 18 := by unfold ipQ; rw [f2']; rfl
  have hiv : isV6 F = true := by unfold isV6; rw [f2']; rfl
  have ht2 : decide (word (F.take j) 12 = 33024) = true := by rw [wd_take (by omega)]; exact htag
  have hI := (readR_0 f3).2.2.1
  have hi2 := ip_facts (readR_0 f3).1 hI
  unfold rdI at hI
  rw [hiv] at hI
  have hI2 : r6 (F.drop 18) = 0 := by rw [← hq]; exact hI
  subst hj
  have f1c : F.length = 81 := f1
  have htk : F.take F.length = F := List.take_length
  have f5c : rdE F = 63 := f5
  have f4c : rdS F = 40 := f4
  have h6 : segR (rdP F) (rdG F) = 0 := (readR_0 f3).2.2.2
  have hP : rdP F = 6 := f6
  rw [hP] at h6
  have hsg := (segRead_Y h6).1
  have hGe := hi2.2.2.2.1
  rw [f2', f4c, f5c] at hGe
  have a1 : 40 + word (F.drop 18) 4 = 63 := by have h5 := f5c; unfold rdE at h5; rw [hiv, if_pos rfl, hq] at h5; exact h5
  have a2 : byt (F.drop 18) 6 = 6 := by have h5 := hP; unfold rdP at h5; rw [hiv, if_pos rfl, hq] at h5; exact h5
  have a3 : adr16 (F.drop 18) 8 = kSrc true n := by have h5 := f7; unfold rdSrc at h5; rw [hiv, if_pos rfl, hq] at h5; exact h5
  have a4 : adr16 (F.drop 18) 24 = kDst true := by have h5 := f8; unfold rdDst at h5; rw [hiv, if_pos rfl, hq] at h5; exact h5
  have hv := (r6_Y hI2).1
  rw [a1, a2, a3, a4] at hv
  refine Runs.valT0 (tFLOk F (.tup [.int .i64 18, .int .u16 34525, .int .i64 0]) (.tup [.agg ([.int .i64 20, .int .i64 63, .int .u8 6] ++ kSrc false n ++ kDst false), .int .i64 0]) (.tup [.agg ([.int .i64 63, .int .u8 6] ++ kSrc true n ++ kDst true), .int .i64 0]) (.tup [.agg [.int .u16 (word (rdG F) 0), .int .u16 (word (rdG F) 2), .int .u8 (segF 6 (rdG F))], .int .i64 0]) true) (F := 100) (n := 6) (pr := [(30, .int .i64 (F.length : Int)), (40, .bool false), (53, .bool true)]) ?_
  refine (nfFLCTFT true true n 63 (word (rdG F) 0) (word (rdG F) 2) (segF 6 (rdG F)) cut (F.length : Int) F _).trans ?_
  refine (if_pos (cdec_true.2 (hB _ _ _ (bOk_row rfl rfl rfl) rfl))).trans ?_
  refine (if_pos (decide_eq_true (by rw [wrapI64 (by omega)]; omega))).trans ?_
  refine (if_pos (⟨rfl, by rw [wrapI64 (by omega)]; exact hc⟩)).trans ?_
  refine (if_pos (decide_eq_false (by omega))).trans ?_
  refine (if_pos (beq_self_eq_true _)).trans ?_
  refine (if_pos (by simp only [capOf_f]; omega)).trans ?_
  refine (if_pos (cdec_true.2 (sayNet (bOk_cut (l := F) (L := F.take F.length) rfl rfl (by first | (simp; done) | (simp; omega)) (by simp)) (by first | (simp; done) | (simp; omega)) hn))).trans ?_
  refine (if_pos (cdec_true.2 (sayTag (bOk_cut (l := F) (L := F.take F.length) rfl rfl (by first | (simp; done) | (simp; omega)) (by simp)) (by first | (simp; done) | (simp; omega)) ht2))).trans ?_
  refine (if_pos (cdec_true.2 (sayNet (bOk_cut (l := F) (L := F.take F.length) rfl rfl (by first | (simp; done) | (simp; omega)) (by simp)) (by first | (simp; done) | (simp; omega)) hn))).trans ?_
  refine (if_pos (⟨by decide, by simp; omega⟩)).trans ?_
  refine (if_pos (cdec_true.2 (say6 (bOk_cut (l := F) (L := F.drop 18) rfl rfl (by first | (simp; done) | (simp; omega)) (by rw [List.take_of_length_le (by simp)])) (by first | (simp; done) | (simp; omega)) hv))).trans ?_
  refine (if_pos (AV.beq_self _)).trans ?_
  refine (if_pos (by show (0 : Int) ≤ 18+63 ∧ ((18+63 : Int)) ≤ _; simp only [capOf_f]; omega)).trans ?_
  refine (if_pos (by show (0 : Int) ≤ 58 ∧ (58 : Int) ≤ 18+63; omega)).trans ?_
  refine (if_pos (cdec_true.2 (saySegR (l := rdG F) (bOk_cut (l := F) rfl rfl (by show 0 + (58 : Int).toNat * 1 + ((18+63 : Int).toNat - (58 : Int).toNat) ≤ _; omega) hGe) (by show (18+63 : Int).toNat - (58 : Int).toNat ≤ _; omega) hsg))).trans ?_
  rfl

theorem flCTTT (n cut : Int) (j : Nat) (F : List UInt8) (f1 : F.length = frA true + frH true + (hdn true + 3)) (f2 : netR F = ((frA true : Int), (if true = true then 34525 else 2048), 0)) (f3 : readR F = 0)
    (f4 : rdS F = frH true) (f5 : rdE F = frH true + (hdn true + 3)) (f6 : rdP F = prt true) (f7 : rdSrc F = kSrc true n) (f8 : rdDst F = kDst true)
    (hB : ∀ (h : AHeap) (a : AV) (q : Nat), (bOk h a = true ∧ bOf h a = [97, 98, 99]) → h.length = q → BuildR [.agg (keyV true true n), .int .u8 0, a, .bool true, .bool false, .int .i64 0] h (slB q F) [ownB F]) (hc : cut % ((F.length : Int) + 1) = (j : Int)) (hle : j ≤ F.length) (hj : j = F.length) : ∃ h', Runs Try.prog 6 [.int .i64 n, .bool true, .bool true, .bool true, .int .i64 cut] [] (.bool true) h' := by
  have hA : frA true = 18 := rfl
  have hH : frH true ≤ 40 := by decide
  have hd : hdn true ≤ 20 := by decide
  have hH2 : 20 ≤ frH true := by decide
  rw [hA] at f1
  have f2' : netR F = (18, (if true = true then 34525 else 2048), 0) := f2
  have htag := tag_t f2
  obtain ⟨n1, n2⟩ := netR_take (k := j) (by rw [f2']) hle
  rw [f2'] at n1 n2
  have hn2 := n2 (by show (18 : Int) ≤ j; omega)
  have hn := netV_Y hn2
  have hq : ipQ F = F.drop 18 := by unfold ipQ; rw [f2']; rfl
  have hiv : isV6 F = true := by unfold isV6; rw [f2']; rfl
  have ht2 : decide (word (F.take j) 12 = 33024) = true := by rw [wd_take (by omega)]; exact htag
  have hI := (readR_0 f3).2.2.1
  have hi2 := ip_facts (readR_0 f3).1 hI
  unfold rdI at hI
  rw [hiv] at hI
  have hI2 : r6 (F.drop 18) = 0 := by rw [← hq]; exact hI
  subst hj
  have f1c : F.length = 69 := f1
  have htk : F.take F.length = F := List.take_length
  have f5c : rdE F = 51 := f5
  have f4c : rdS F = 40 := f4
  have h6 : segR (rdP F) (rdG F) = 0 := (readR_0 f3).2.2.2
  have hP : rdP F = 17 := f6
  rw [hP] at h6
  have hsg := (segRead_Y h6).1
  have hGe := hi2.2.2.2.1
  rw [f2', f4c, f5c] at hGe
  have a1 : 40 + word (F.drop 18) 4 = 51 := by have h5 := f5c; unfold rdE at h5; rw [hiv, if_pos rfl, hq] at h5; exact h5
  have a2 : byt (F.drop 18) 6 = 17 := by have h5 := hP; unfold rdP at h5; rw [hiv, if_pos rfl, hq] at h5; exact h5
  have a3 : adr16 (F.drop 18) 8 = kSrc true n := by have h5 := f7; unfold rdSrc at h5; rw [hiv, if_pos rfl, hq] at h5; exact h5
  have a4 : adr16 (F.drop 18) 24 = kDst true := by have h5 := f8; unfold rdDst at h5; rw [hiv, if_pos rfl, hq] at h5; exact h5
  have hv := (r6_Y hI2).1
  rw [a1, a2, a3, a4] at hv
  refine Runs.valT0 (tFLOk F (.tup [.int .i64 18, .int .u16 34525, .int .i64 0]) (.tup [.agg ([.int .i64 20, .int .i64 51, .int .u8 17] ++ kSrc false n ++ kDst false), .int .i64 0]) (.tup [.agg ([.int .i64 51, .int .u8 17] ++ kSrc true n ++ kDst true), .int .i64 0]) (.tup [.agg [.int .u16 (word (rdG F) 0), .int .u16 (word (rdG F) 2), .int .u8 (segF 17 (rdG F))], .int .i64 0]) true) (F := 100) (n := 6) (pr := [(30, .int .i64 (F.length : Int)), (40, .bool false), (53, .bool true)]) ?_
  refine (nfFLCTTT true true n 51 (word (rdG F) 0) (word (rdG F) 2) (segF 17 (rdG F)) cut (F.length : Int) F _).trans ?_
  refine (if_pos (cdec_true.2 (hB _ _ _ (bOk_row rfl rfl rfl) rfl))).trans ?_
  refine (if_pos (decide_eq_true (by rw [wrapI64 (by omega)]; omega))).trans ?_
  refine (if_pos (⟨rfl, by rw [wrapI64 (by omega)]; exact hc⟩)).trans ?_
  refine (if_pos (decide_eq_false (by omega))).trans ?_
  refine (if_pos (beq_self_eq_true _)).trans ?_
  refine (if_pos (by simp only [capOf_f]; omega)).trans ?_
  refine (if_pos (cdec_true.2 (sayNet (bOk_cut (l := F) (L := F.take F.length) rfl rfl (by first | (simp; done) | (simp; omega)) (by simp)) (by first | (simp; done) | (simp; omega)) hn))).trans ?_
  refine (if_pos (cdec_true.2 (sayTag (bOk_cut (l := F) (L := F.take F.length) rfl rfl (by first | (simp; done) | (simp; omega)) (by simp)) (by first | (simp; done) | (simp; omega)) ht2))).trans ?_
  refine (if_pos (cdec_true.2 (sayNet (bOk_cut (l := F) (L := F.take F.length) rfl rfl (by first | (simp; done) | (simp; omega)) (by simp)) (by first | (simp; done) | (simp; omega)) hn))).trans ?_
  refine (if_pos (⟨by decide, by simp; omega⟩)).trans ?_
  refine (if_pos (cdec_true.2 (say6 (bOk_cut (l := F) (L := F.drop 18) rfl rfl (by first | (simp; done) | (simp; omega)) (by rw [List.take_of_length_le (by simp)])) (by first | (simp; done) | (simp; omega)) hv))).trans ?_
  refine (if_pos (AV.beq_self _)).trans ?_
  refine (if_pos (by show (0 : Int) ≤ 18+51 ∧ ((18+51 : Int)) ≤ _; simp only [capOf_f]; omega)).trans ?_
  refine (if_pos (by show (0 : Int) ≤ 58 ∧ (58 : Int) ≤ 18+51; omega)).trans ?_
  refine (if_pos (cdec_true.2 (saySegR (l := rdG F) (bOk_cut (l := F) rfl rfl (by show 0 + (58 : Int).toNat * 1 + ((18+51 : Int).toNat - (58 : Int).toNat) ≤ _; omega) hGe) (by show (18+51 : Int).toNat - (58 : Int).toNat ≤ _; omega) hsg))).trans ?_
  rfl

theorem runFrameLayers (n : Int) (v u t : Bool) (cut : Int) (hn : -9223372036854775808 ≤ n ∧ n < 9223372036854775808) (hc : -9223372036854775808 ≤ cut ∧ cut < 9223372036854775808) : ∃ h', Runs Try.prog 6 [.int .i64 n, .bool v, .bool u, .bool t, .int .i64 cut] [] (.bool true) h' := by
  obtain ⟨hl, f2, f3, f4, f5, f6, f7, f8⟩ := flF v u t n
  have hB : ∀ (h : AHeap) (a : AV) (q : Nat), (bOk h a = true ∧ bOf h a = [97, 98, 99]) → h.length = q → BuildR [.agg (keyV v u n), .int .u8 0, a, .bool t, .bool false, .int .i64 0] h (slB q (bldF v u t false n 0 [97, 98, 99] 0)) [ownB (bldF v u t false n 0 [97, 98, 99] 0)] := fun h a q g hq => BuildR.mk v u t false n 0 [97, 98, 99] 0 h a q g (by decide) (by decide) hq
  generalize (bldF v u t false n 0 [97, 98, 99] 0) = F at *
  have hA : frA t ≤ 18 := by cases t <;> decide
  have hH : frH v ≤ 40 := by cases v <;> decide
  have hd : hdn u ≤ 20 := by cases u <;> decide
  have c0 := Int.emod_nonneg cut (show (((F.length : Nat) : Int) + 1) ≠ 0 by omega)
  have c1 := Int.emod_lt_of_pos cut (show 0 < (((F.length : Nat) : Int) + 1) by omega)
  obtain ⟨j, hj⟩ : ∃ j : Nat, cut % ((F.length : Int) + 1) = (j : Int) := ⟨(cut % ((F.length : Int) + 1)).toNat, by omega⟩
  have hle : j ≤ F.length := by omega
  by_cases h1 : j < frA t
  · cases t
    · exact flAF v u n cut j F hl f2 f3 f4 f5 f6 f7 f8 hB hj hle h1
    · exact flAT v u n cut j F hl f2 f3 f4 f5 f6 f7 f8 hB hj hle h1
  by_cases h2 : j < F.length
  · cases t <;> cases v
    · exact flBFF u n cut j F hl f2 f3 f4 f5 f6 f7 f8 hB hj hle ⟨by have : frA false = 14 := rfl; omega, h2⟩
    · exact flBTF u n cut j F hl f2 f3 f4 f5 f6 f7 f8 hB hj hle ⟨by have : frA false = 14 := rfl; omega, h2⟩
    · exact flBFT u n cut j F hl f2 f3 f4 f5 f6 f7 f8 hB hj hle ⟨by have : frA true = 18 := rfl; omega, h2⟩
    · exact flBTT u n cut j F hl f2 f3 f4 f5 f6 f7 f8 hB hj hle ⟨by have : frA true = 18 := rfl; omega, h2⟩
  · have h3 : j = F.length := by omega
    cases t <;> cases v <;> cases u
    · exact flCFFF n cut j F hl f2 f3 f4 f5 f6 f7 f8 hB hj hle h3
    · exact flCFTF n cut j F hl f2 f3 f4 f5 f6 f7 f8 hB hj hle h3
    · exact flCTFF n cut j F hl f2 f3 f4 f5 f6 f7 f8 hB hj hle h3
    · exact flCTTF n cut j F hl f2 f3 f4 f5 f6 f7 f8 hB hj hle h3
    · exact flCFFT n cut j F hl f2 f3 f4 f5 f6 f7 f8 hB hj hle h3
    · exact flCFTT n cut j F hl f2 f3 f4 f5 f6 f7 f8 hB hj hle h3
    · exact flCTFT n cut j F hl f2 f3 f4 f5 f6 f7 f8 hB hj hle h3
    · exact flCTTT n cut j F hl f2 f3 f4 f5 f6 f7 f8 hB hj hle h3

end Go.Proofs.Ythbneddbigclfaa.L
