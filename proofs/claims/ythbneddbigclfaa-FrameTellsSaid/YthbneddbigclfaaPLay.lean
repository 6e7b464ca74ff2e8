/- A frame's layers, frame's. -/
import Derived.Test.YthbneddbigclfaaPLayN
import Derived.Test.YthbneddbigclfaaLayK0
set_option autoImplicit false
set_option maxRecDepth 100000
set_option linter.unusedVariables false
set_option linter.unusedSimpArgs false
namespace Go.Proofs.Ythbneddbigclfaa.L
open Go Go.Abs

theorem walkPLay (l : List UInt8) (hl : l.length ≤ 3000) : ∃ v1 h1, Runs Try.prog 48 [slB 0 l] [farB l] v1 h1 ∧ ∃ ks, ∀ m, Den h1 1 m ks v1 (.sl (some (m, 0)) (lyP l).length 0 false) [.cells (lyC (lyP l)) 2 .own none] ∧ KsOk ks := by
  have hl2 : l.length ≤ 70368744177664 := by omega
  by_cases h1 : (netR l).2.2 = 1
  · have e0 : netV .u16 (netR l) = .tup [.int .i64 0, .int .u16 0, .int .i64 1] := by
      rcases netR_cases l with ⟨h, _⟩ | ⟨g1, g2, _⟩
      · omega
      · unfold netV; rw [g1, g2, h1]
    have hps : lyP l = [] := by unfold lyP; rw [if_pos h1]
    refine ⟨(AV.sl none 0 0 true), (hPLayS0 l [] 0 0 0 0 0 0 0 0 0), Runs.ofT0 (tPLayOk (.tup [.int .i64 0, .int .u16 0, .int .i64 1]) .nilFn .nilFn .nilFn false) (F := 100) (n := 4) (pr := []) ?_, [none], fun m => ⟨by rw [hps]; exact .nil m _ 2, ksOk1 _⟩⟩
    refine (nfPLayS l [] 0 0 0 0 0 0 0 0 0 _).trans ?_
    refine (if_pos (cdec_true.2 (sayNet (bOk_row rfl rfl rfl) hl2 e0))).trans ?_
    rfl
  have h14 : 14 ≤ l.length := by
    by_cases h : 14 ≤ l.length
    · exact h
    · exfalso; apply h1; unfold netR; rw [if_pos (by omega)]
  by_cases ht : word l 12 = 33024
  · have htg : decide (word l 12 = 33024) = true := decide_eq_true ht
    have hwt := ht
    have hif : (if word l 12 = 33024 then [(sVLAN, (14 : Int))] else []) = [(sVLAN, 14)] := if_pos ht
    by_cases h2 : (netR l).2.2 = 0
    case neg =>
      have h2' : (netR l).2.2 = 2 := by rcases netR_cases l with ⟨h, _⟩ | ⟨_, _, h⟩ <;> omega
      have e0 : netV .u16 (netR l) = .tup [.int .i64 0, .int .u16 0, .int .i64 2] := by
        rcases netR_cases l with ⟨h, _⟩ | ⟨g1, g2, _⟩
        · omega
        · unfold netV; rw [g1, g2, h2']
      have hps : lyP l = [(sETH, 0), (sVLAN, 14)] := by unfold lyP; rw [if_neg h1, hif, if_pos h2]; rfl
      refine ⟨(AV.sl (some (3, 0)) 2 0 false), (hPLayNT3 l [] 0 0 0 0 0 0 0 0 0), Runs.ofT0 (tPLayOk (.tup [.int .i64 0, .int .u16 0, .int .i64 2]) .nilFn .nilFn .nilFn true) (F := 100) (n := 4) (pr := []) ?_, [some 3], fun m => ⟨by rw [hps]; exact denL (R := []) (by decide) rfl rfl (by decide) (by decide), ksOk1 _⟩⟩
      refine (nfPLayNT l [] 0 0 0 0 0 0 0 0 0 _).trans ?_
      refine (if_pos (cdec_true.2 (sayNet (bOk_row rfl rfl rfl) hl2 e0))).trans ?_
      refine (if_pos (cdec_true.2 (sayTag (bOk_row rfl rfl rfl) (by show 14 ≤ l.length; exact h14) htg))).trans ?_
      rfl
    obtain ⟨A, hA, hA2, hAl, hkd⟩ := net_at h2
    have hq : (ipQ l).length = l.length - A := by unfold ipQ; rw [hA]; simp
    rcases hkd with hkd | hkd
    · have e0 : netV .u16 (netR l) = .tup [.int .i64 (A : Int), .int .u16 2048, .int .i64 0] := by unfold netV; rw [hA, hkd, h2]
      have hv : isV6 l = false := by unfold isV6; rw [hkd]; rfl
      have hI : rdI l = r4 (ipQ l) := by unfold rdI; rw [hv]; rfl
      have hS : rdS l = (s4 (ipQ l)) := by unfold rdS; rw [hv]; rfl
      have hE : rdE l = (word (ipQ l) 2) := by unfold rdE; rw [hv]; rfl
      have hP : rdP l = (byt (ipQ l) 9) := by unfold rdP; rw [hv]; rfl
      by_cases hr : r4 (ipQ l) = 0
      case neg =>
        have hr0 := hr
        have hps : lyP l = [(sETH, 0), (sVLAN, 14)] := by unfold lyP; rw [if_neg h1, hif, if_neg (by omega), if_pos (by rw [hI]; exact hr)]; rfl
        refine ⟨(AV.sl (some (3, 0)) 2 0 false), (hPLayIFT5 l [] (A : Int) 0 0 0 0 0 0 (r4 (ipQ l)) 0), Runs.ofT0 (tPLayOk (.tup [.int .i64 (A : Int), .int .u16 2048, .int .i64 0]) (.tup [.agg ([.int .i64 0, .int .i64 0, .int .u8 0] ++ adr0 ++ adr0), .int .i64 (r4 (ipQ l))]) .nilFn .nilFn true) (F := 100) (n := 4) (pr := [(35, .bool true)]) ?_, [some 3], fun m => ⟨by rw [hps]; exact denL (R := []) (by decide) rfl rfl (by decide) (by decide), ksOk1 _⟩⟩
        refine (nfPLayIFT l [] (A : Int) 0 0 0 0 0 0 (r4 (ipQ l)) 0 _).trans ?_
        refine (if_pos (cdec_true.2 (sayNet (bOk_row rfl rfl rfl) hl2 e0))).trans ?_
        refine (if_pos (cdec_true.2 (sayTag (bOk_row rfl rfl rfl) (by show 14 ≤ l.length; exact h14) htg))).trans ?_
        refine (if_pos (cdec_true.2 (sayNet (bOk_row rfl rfl rfl) hl2 e0))).trans ?_
        refine (if_pos (by omega)).trans ?_
        refine (if_pos (cdec_true.2 (say4 (l := ipQ l) (bOk_cut rfl rfl (by omega) (ipQ_eq hA)) (by simp <;> omega) (r4_N rfl hr)))).trans ?_
        refine (if_pos (by simp [hr0])).trans ?_
        rfl
      obtain ⟨b0, b1, b2, b3, b5, _⟩ := r4_bounds hr
      have hsp := word_range (rdG l) 0
      have hdp := word_range (rdG l) 2
      have wE : IntKind.i64.wrap ((A : Int) + (word (ipQ l) 2)) = (A : Int) + (word (ipQ l) 2) := wrapI64 (by omega)
      have wS : IntKind.i64.wrap ((A : Int) + (s4 (ipQ l))) = (A : Int) + (s4 (ipQ l)) := wrapI64 (by omega)
      have hG := rdG_eq hA hS hE (by omega) (by omega)
      by_cases hs : segR (byt (ipQ l) 9) (rdG l) = 0
      case neg =>
        have hr0 := hs
        have hps : lyP l = [(sETH, 0), (sVLAN, 14), (sIP false, (A : Int))] := by unfold lyP; rw [if_neg h1, hif, if_neg (by omega), if_neg (by rw [hI]; omega), hv, hA, if_pos (by rw [hP]; exact hs)]; rfl
        refine ⟨(AV.sl (some (8, 0)) 3 0 false), (hPLayGFT6 l (ipQ l) (A : Int) (s4 (ipQ l)) (word (ipQ l) 2) (byt (ipQ l) 9) 0 0 0 (segR (byt (ipQ l) 9) (rdG l)) 0), Runs.ofT0 (tPLayOk (.tup [.int .i64 (A : Int), .int .u16 2048, .int .i64 0]) (.tup [.agg ([.int .i64 (s4 (ipQ l)), .int .i64 (word (ipQ l) 2), .int .u8 (byt (ipQ l) 9)] ++ adr4 (ipQ l) 12 ++ adr4 (ipQ l) 16), .int .i64 0]) .nilFn (.tup [.agg [.int .u16 0, .int .u16 0, .int .u8 0], .int .i64 (segR (byt (ipQ l) 9) (rdG l))]) true) (F := 100) (n := 4) (pr := [(35, .bool false), (59, .bool true)]) ?_, [some 8], fun m => ⟨by rw [hps]; exact denL (R := []) (by decide) rfl rfl (by decide) (by decide), ksOk1 _⟩⟩
        refine (nfPLayGFT l (ipQ l) (A : Int) (s4 (ipQ l)) (word (ipQ l) 2) (byt (ipQ l) 9) 0 0 0 (segR (byt (ipQ l) 9) (rdG l)) 0 _).trans ?_
        refine (if_pos (cdec_true.2 (sayNet (bOk_row rfl rfl rfl) hl2 e0))).trans ?_
        refine (if_pos (cdec_true.2 (sayTag (bOk_row rfl rfl rfl) (by show 14 ≤ l.length; exact h14) htg))).trans ?_
        refine (if_pos (cdec_true.2 (sayNet (bOk_row rfl rfl rfl) hl2 e0))).trans ?_
        refine (if_pos (by omega)).trans ?_
        refine (if_pos (cdec_true.2 (say4 (l := ipQ l) (bOk_cut rfl rfl (by omega) (ipQ_eq hA)) (by simp <;> omega) (r4_Y hr)))).trans ?_
        refine (if_pos (AV.beq_self _)).trans ?_
        iterate 2 (refine (if_pos (by simp only [iv, w6, intV, wE, wS, capOf_f]; omega)).trans ?_)
        refine (if_pos (cdec_true.2 (saySegR (l := rdG l) (bOk_cut rfl rfl (by simp only [iv, w6, intV, wE, wS]; omega) (by simp only [iv, w6, intV, wE, wS]; exact hG)) (by simp only [nOf_sl, iv, w6, intV, wE, wS]; omega) ((segRead_N rfl hs).1)))).trans ?_
        refine (if_pos (by simp [hr0])).trans ?_
        rfl
      rcases b5 with hp | hp
      · have hs2 : segR 6 (rdG l) = 0 := by rw [← hp]; exact hs
        have hip := r4_Y hr
        rw [hp] at hip
        have hps : lyP l = [(sETH, 0), (sVLAN, 14), (sIP false, (A : Int)), (sL4 false, IntKind.i64.wrap ((A : Int) + (s4 (ipQ l))))] := by unfold lyP; rw [if_neg h1, hif, if_neg (by omega), if_neg (by rw [hI]; omega), hv, hA, if_neg (by rw [hP]; omega), hP, hp, hS, wS]; rfl
        refine ⟨(AV.sl (some (11, 0)) 4 0 false), (hPLayKFFT6 l (ipQ l) (A : Int) (s4 (ipQ l)) (word (ipQ l) 2) 0 (word (rdG l) 0) (word (rdG l) 2) (segF 6 (rdG l)) 0 0), Runs.ofT0 (tPLayOk (.tup [.int .i64 (A : Int), .int .u16 2048, .int .i64 0]) (.tup [.agg ([.int .i64 (s4 (ipQ l)), .int .i64 (word (ipQ l) 2), .int .u8 6] ++ adr4 (ipQ l) 12 ++ adr4 (ipQ l) 16), .int .i64 0]) .nilFn (.tup [.agg [.int .u16 (word (rdG l) 0), .int .u16 (word (rdG l) 2), .int .u8 (segF 6 (rdG l))], .int .i64 0]) true) (F := 100) (n := 4) (pr := [(35, .bool false), (59, .bool false)]) ?_, [some 11], fun m => ⟨by rw [hps]; exact denL (R := []) (by decide) rfl rfl (by decide) (by decide), ksOk1 _⟩⟩
        refine (nfPLayKFFT l (ipQ l) (A : Int) (s4 (ipQ l)) (word (ipQ l) 2) 0 (word (rdG l) 0) (word (rdG l) 2) (segF 6 (rdG l)) 0 0 _).trans ?_
        refine (if_pos (cdec_true.2 (sayNet (bOk_row rfl rfl rfl) hl2 e0))).trans ?_
        refine (if_pos (cdec_true.2 (sayTag (bOk_row rfl rfl rfl) (by show 14 ≤ l.length; exact h14) htg))).trans ?_
        refine (if_pos (cdec_true.2 (sayNet (bOk_row rfl rfl rfl) hl2 e0))).trans ?_
        refine (if_pos (by omega)).trans ?_
        refine (if_pos (cdec_true.2 (say4 (l := ipQ l) (bOk_cut rfl rfl (by omega) (ipQ_eq hA)) (by simp <;> omega) (hip)))).trans ?_
        refine (if_pos (AV.beq_self _)).trans ?_
        iterate 2 (refine (if_pos (by simp only [iv, w6, intV, wE, wS, capOf_f]; omega)).trans ?_)
        refine (if_pos (cdec_true.2 (saySegR (l := rdG l) (bOk_cut rfl rfl (by simp only [iv, w6, intV, wE, wS]; omega) (by simp only [iv, w6, intV, wE, wS]; exact hG)) (by simp only [nOf_sl, iv, w6, intV, wE, wS]; omega) ((segRead_Y hs2).1)))).trans ?_
        rfl
      · have hs2 : segR 17 (rdG l) = 0 := by rw [← hp]; exact hs
        have hip := r4_Y hr
        rw [hp] at hip
        have hps : lyP l = [(sETH, 0), (sVLAN, 14), (sIP false, (A : Int)), (sL4 true, IntKind.i64.wrap ((A : Int) + (s4 (ipQ l))))] := by unfold lyP; rw [if_neg h1, hif, if_neg (by omega), if_neg (by rw [hI]; omega), hv, hA, if_neg (by rw [hP]; omega), hP, hp, hS, wS]; rfl
        refine ⟨(AV.sl (some (11, 0)) 4 0 false), (hPLayKFTT6 l (ipQ l) (A : Int) (s4 (ipQ l)) (word (ipQ l) 2) 0 (word (rdG l) 0) (word (rdG l) 2) (segF 17 (rdG l)) 0 0), Runs.ofT0 (tPLayOk (.tup [.int .i64 (A : Int), .int .u16 2048, .int .i64 0]) (.tup [.agg ([.int .i64 (s4 (ipQ l)), .int .i64 (word (ipQ l) 2), .int .u8 17] ++ adr4 (ipQ l) 12 ++ adr4 (ipQ l) 16), .int .i64 0]) .nilFn (.tup [.agg [.int .u16 (word (rdG l) 0), .int .u16 (word (rdG l) 2), .int .u8 (segF 17 (rdG l))], .int .i64 0]) true) (F := 100) (n := 4) (pr := [(35, .bool false), (59, .bool false)]) ?_, [some 11], fun m => ⟨by rw [hps]; exact denL (R := []) (by decide) rfl rfl (by decide) (by decide), ksOk1 _⟩⟩
        refine (nfPLayKFTT l (ipQ l) (A : Int) (s4 (ipQ l)) (word (ipQ l) 2) 0 (word (rdG l) 0) (word (rdG l) 2) (segF 17 (rdG l)) 0 0 _).trans ?_
        refine (if_pos (cdec_true.2 (sayNet (bOk_row rfl rfl rfl) hl2 e0))).trans ?_
        refine (if_pos (cdec_true.2 (sayTag (bOk_row rfl rfl rfl) (by show 14 ≤ l.length; exact h14) htg))).trans ?_
        refine (if_pos (cdec_true.2 (sayNet (bOk_row rfl rfl rfl) hl2 e0))).trans ?_
        refine (if_pos (by omega)).trans ?_
        refine (if_pos (cdec_true.2 (say4 (l := ipQ l) (bOk_cut rfl rfl (by omega) (ipQ_eq hA)) (by simp <;> omega) (hip)))).trans ?_
        refine (if_pos (AV.beq_self _)).trans ?_
        iterate 2 (refine (if_pos (by simp only [iv, w6, intV, wE, wS, capOf_f]; omega)).trans ?_)
        refine (if_pos (cdec_true.2 (saySegR (l := rdG l) (bOk_cut rfl rfl (by simp only [iv, w6, intV, wE, wS]; omega) (by simp only [iv, w6, intV, wE, wS]; exact hG)) (by simp only [nOf_sl, iv, w6, intV, wE, wS]; omega) ((segRead_Y hs2).1)))).trans ?_
        rfl
    · have e0 : netV .u16 (netR l) = .tup [.int .i64 (A : Int), .int .u16 34525, .int .i64 0] := by unfold netV; rw [hA, hkd, h2]
      have hv : isV6 l = true := by unfold isV6; rw [hkd]; rfl
      have hI : rdI l = r6 (ipQ l) := by unfold rdI; rw [hv]; rfl
      have hS : rdS l = 40 := by unfold rdS; rw [hv]; rfl
      have hE : rdE l = (40 + word (ipQ l) 4) := by unfold rdE; rw [hv]; rfl
      have hP : rdP l = (byt (ipQ l) 6) := by unfold rdP; rw [hv]; rfl
      by_cases hr : r6 (ipQ l) = 0
      case neg =>
        have hr0 := hr
        have hps : lyP l = [(sETH, 0), (sVLAN, 14)] := by unfold lyP; rw [if_neg h1, hif, if_neg (by omega), if_pos (by rw [hI]; exact hr)]; rfl
        refine ⟨(AV.sl (some (3, 0)) 2 0 false), (hPLayITT5 l [] (A : Int) 0 0 0 0 0 0 (r6 (ipQ l)) 0), Runs.ofT0 (tPLayOk (.tup [.int .i64 (A : Int), .int .u16 34525, .int .i64 0]) .nilFn (.tup [.agg ([.int .i64 0, .int .u8 0] ++ adr0 ++ adr0), .int .i64 (r6 (ipQ l))]) .nilFn true) (F := 100) (n := 4) (pr := [(35, .bool true)]) ?_, [some 3], fun m => ⟨by rw [hps]; exact denL (R := []) (by decide) rfl rfl (by decide) (by decide), ksOk1 _⟩⟩
        refine (nfPLayITT l [] (A : Int) 0 0 0 0 0 0 (r6 (ipQ l)) 0 _).trans ?_
        refine (if_pos (cdec_true.2 (sayNet (bOk_row rfl rfl rfl) hl2 e0))).trans ?_
        refine (if_pos (cdec_true.2 (sayTag (bOk_row rfl rfl rfl) (by show 14 ≤ l.length; exact h14) htg))).trans ?_
        refine (if_pos (cdec_true.2 (sayNet (bOk_row rfl rfl rfl) hl2 e0))).trans ?_
        refine (if_pos (by omega)).trans ?_
        refine (if_pos (cdec_true.2 (say6 (l := ipQ l) (bOk_cut rfl rfl (by omega) (ipQ_eq hA)) (by simp <;> omega) ((r6_N rfl hr).1)))).trans ?_
        refine (if_pos (by simp [hr0])).trans ?_
        rfl
      obtain ⟨b0, b3, b5⟩ := r6_bounds hr
      have b1 : (20 : Int) ≤ 40 := by decide
      have b2 : (40 : Int) ≤ 40 + word (ipQ l) 4 := by have := word_range (ipQ l) 4; omega
      have hsp := word_range (rdG l) 0
      have hdp := word_range (rdG l) 2
      have wE : IntKind.i64.wrap ((A : Int) + (40 + word (ipQ l) 4)) = (A : Int) + (40 + word (ipQ l) 4) := wrapI64 (by omega)
      have wS : IntKind.i64.wrap ((A : Int) + 40) = (A : Int) + 40 := wrapI64 (by omega)
      have hG := rdG_eq hA hS hE (by omega) (by omega)
      by_cases hs : segR (byt (ipQ l) 6) (rdG l) = 0
      case neg =>
        have hr0 := hs
        have hps : lyP l = [(sETH, 0), (sVLAN, 14), (sIP true, (A : Int))] := by unfold lyP; rw [if_neg h1, hif, if_neg (by omega), if_neg (by rw [hI]; omega), hv, hA, if_pos (by rw [hP]; exact hs)]; rfl
        refine ⟨(AV.sl (some (8, 0)) 3 0 false), (hPLayGTT6 l (ipQ l) (A : Int) 40 (40 + word (ipQ l) 4) (byt (ipQ l) 6) 0 0 0 (segR (byt (ipQ l) 6) (rdG l)) 0), Runs.ofT0 (tPLayOk (.tup [.int .i64 (A : Int), .int .u16 34525, .int .i64 0]) .nilFn (.tup [.agg ([.int .i64 (40 + word (ipQ l) 4), .int .u8 (byt (ipQ l) 6)] ++ adr16 (ipQ l) 8 ++ adr16 (ipQ l) 24), .int .i64 0]) (.tup [.agg [.int .u16 0, .int .u16 0, .int .u8 0], .int .i64 (segR (byt (ipQ l) 6) (rdG l))]) true) (F := 100) (n := 4) (pr := [(35, .bool false), (59, .bool true)]) ?_, [some 8], fun m => ⟨by rw [hps]; exact denL (R := []) (by decide) rfl rfl (by decide) (by decide), ksOk1 _⟩⟩
        refine (nfPLayGTT l (ipQ l) (A : Int) 40 (40 + word (ipQ l) 4) (byt (ipQ l) 6) 0 0 0 (segR (byt (ipQ l) 6) (rdG l)) 0 _).trans ?_
        refine (if_pos (cdec_true.2 (sayNet (bOk_row rfl rfl rfl) hl2 e0))).trans ?_
        refine (if_pos (cdec_true.2 (sayTag (bOk_row rfl rfl rfl) (by show 14 ≤ l.length; exact h14) htg))).trans ?_
        refine (if_pos (cdec_true.2 (sayNet (bOk_row rfl rfl rfl) hl2 e0))).trans ?_
        refine (if_pos (by omega)).trans ?_
        refine (if_pos (cdec_true.2 (say6 (l := ipQ l) (bOk_cut rfl rfl (by omega) (ipQ_eq hA)) (by simp <;> omega) ((r6_Y hr).1)))).trans ?_
        refine (if_pos (AV.beq_self _)).trans ?_
        iterate 2 (refine (if_pos (by simp only [iv, w6, intV, wE, wS, capOf_f]; omega)).trans ?_)
        refine (if_pos (cdec_true.2 (saySegR (l := rdG l) (bOk_cut rfl rfl (by simp only [iv, w6, intV, wE, wS]; omega) (by simp only [iv, w6, intV, wE, wS]; exact hG)) (by simp only [nOf_sl, iv, w6, intV, wE, wS]; omega) ((segRead_N rfl hs).1)))).trans ?_
        refine (if_pos (by simp [hr0])).trans ?_
        rfl
      rcases b5 with hp | hp
      · have hs2 : segR 6 (rdG l) = 0 := by rw [← hp]; exact hs
        have hip := (r6_Y hr).1
        rw [hp] at hip
        have hps : lyP l = [(sETH, 0), (sVLAN, 14), (sIP true, (A : Int)), (sL4 false, IntKind.i64.wrap ((A : Int) + 40))] := by unfold lyP; rw [if_neg h1, hif, if_neg (by omega), if_neg (by rw [hI]; omega), hv, hA, if_neg (by rw [hP]; omega), hP, hp, hS, wS]; rfl
        refine ⟨(AV.sl (some (11, 0)) 4 0 false), (hPLayKTFT6 l (ipQ l) (A : Int) 40 (40 + word (ipQ l) 4) 0 (word (rdG l) 0) (word (rdG l) 2) (segF 6 (rdG l)) 0 0), Runs.ofT0 (tPLayOk (.tup [.int .i64 (A : Int), .int .u16 34525, .int .i64 0]) .nilFn (.tup [.agg ([.int .i64 (40 + word (ipQ l) 4), .int .u8 6] ++ adr16 (ipQ l) 8 ++ adr16 (ipQ l) 24), .int .i64 0]) (.tup [.agg [.int .u16 (word (rdG l) 0), .int .u16 (word (rdG l) 2), .int .u8 (segF 6 (rdG l))], .int .i64 0]) true) (F := 100) (n := 4) (pr := [(35, .bool false), (59, .bool false)]) ?_, [some 11], fun m => ⟨by rw [hps]; exact denL (R := []) (by decide) rfl rfl (by decide) (by decide), ksOk1 _⟩⟩
        refine (nfPLayKTFT l (ipQ l) (A : Int) 40 (40 + word (ipQ l) 4) 0 (word (rdG l) 0) (word (rdG l) 2) (segF 6 (rdG l)) 0 0 _).trans ?_
        refine (if_pos (cdec_true.2 (sayNet (bOk_row rfl rfl rfl) hl2 e0))).trans ?_
        refine (if_pos (cdec_true.2 (sayTag (bOk_row rfl rfl rfl) (by show 14 ≤ l.length; exact h14) htg))).trans ?_
        refine (if_pos (cdec_true.2 (sayNet (bOk_row rfl rfl rfl) hl2 e0))).trans ?_
        refine (if_pos (by omega)).trans ?_
        refine (if_pos (cdec_true.2 (say6 (l := ipQ l) (bOk_cut rfl rfl (by omega) (ipQ_eq hA)) (by simp <;> omega) (hip)))).trans ?_
        refine (if_pos (AV.beq_self _)).trans ?_
        iterate 2 (refine (if_pos (by simp only [iv, w6, intV, wE, wS, capOf_f]; omega)).trans ?_)
        refine (if_pos (cdec_true.2 (saySegR (l := rdG l) (bOk_cut rfl rfl (by simp only [iv, w6, intV, wE, wS]; omega) (by simp only [iv, w6, intV, wE, wS]; exact hG)) (by simp only [nOf_sl, iv, w6, intV, wE, wS]; omega) ((segRead_Y hs2).1)))).trans ?_
        rfl
      · have hs2 : segR 17 (rdG l) = 0 := by rw [← hp]; exact hs
        have hip := (r6_Y hr).1
        rw [hp] at hip
        have hps : lyP l = [(sETH, 0), (sVLAN, 14), (sIP true, (A : Int)), (sL4 true, IntKind.i64.wrap ((A : Int) + 40))] := by unfold lyP; rw [if_neg h1, hif, if_neg (by omega), if_neg (by rw [hI]; omega), hv, hA, if_neg (by rw [hP]; omega), hP, hp, hS, wS]; rfl
        refine ⟨(AV.sl (some (11, 0)) 4 0 false), (hPLayKTTT6 l (ipQ l) (A : Int) 40 (40 + word (ipQ l) 4) 0 (word (rdG l) 0) (word (rdG l) 2) (segF 17 (rdG l)) 0 0), Runs.ofT0 (tPLayOk (.tup [.int .i64 (A : Int), .int .u16 34525, .int .i64 0]) .nilFn (.tup [.agg ([.int .i64 (40 + word (ipQ l) 4), .int .u8 17] ++ adr16 (ipQ l) 8 ++ adr16 (ipQ l) 24), .int .i64 0]) (.tup [.agg [.int .u16 (word (rdG l) 0), .int .u16 (word (rdG l) 2), .int .u8 (segF 17 (rdG l))], .int .i64 0]) true) (F := 100) (n := 4) (pr := [(35, .bool false), (59, .bool false)]) ?_, [some 11], fun m => ⟨by rw [hps]; exact denL (R := []) (by decide) rfl rfl (by decide) (by decide), ksOk1 _⟩⟩
        refine (nfPLayKTTT l (ipQ l) (A : Int) 40 (40 + word (ipQ l) 4) 0 (word (rdG l) 0) (word (rdG l) 2) (segF 17 (rdG l)) 0 0 _).trans ?_
        refine (if_pos (cdec_true.2 (sayNet (bOk_row rfl rfl rfl) hl2 e0))).trans ?_
        refine (if_pos (cdec_true.2 (sayTag (bOk_row rfl rfl rfl) (by show 14 ≤ l.length; exact h14) htg))).trans ?_
        refine (if_pos (cdec_true.2 (sayNet (bOk_row rfl rfl rfl) hl2 e0))).trans ?_
        refine (if_pos (by omega)).trans ?_
        refine (if_pos (cdec_true.2 (say6 (l := ipQ l) (bOk_cut rfl rfl (by omega) (ipQ_eq hA)) (by simp <;> omega) (hip)))).trans ?_
        refine (if_pos (AV.beq_self _)).trans ?_
        iterate 2 (refine (if_pos (by simp only [iv, w6, intV, wE, wS, capOf_f]; omega)).trans ?_)
        refine (if_pos (cdec_true.2 (saySegR (l := rdG l) (bOk_cut rfl rfl (by simp only [iv, w6, intV, wE, wS]; omega) (by simp only [iv, w6, intV, wE, wS]; exact hG)) (by simp only [nOf_sl, iv, w6, intV, wE, wS]; omega) ((segRead_Y hs2).1)))).trans ?_
        rfl
  · have htg : decide (word l 12 = 33024) = false := decide_eq_false ht
    have hwt := ht
    have hif : (if word l 12 = 33024 then [(sVLAN, (14 : Int))] else []) = [] := if_neg ht
    by_cases h2 : (netR l).2.2 = 0
    case neg =>
      have h2' : (netR l).2.2 = 2 := by rcases netR_cases l with ⟨h, _⟩ | ⟨_, _, h⟩ <;> omega
      have e0 : netV .u16 (netR l) = .tup [.int .i64 0, .int .u16 0, .int .i64 2] := by
        rcases netR_cases l with ⟨h, _⟩ | ⟨g1, g2, _⟩
        · omega
        · unfold netV; rw [g1, g2, h2']
      have hps : lyP l = [(sETH, 0)] := by unfold lyP; rw [if_neg h1, hif, if_pos h2]; rfl
      refine ⟨(AV.sl (some (1, 0)) 1 0 false), (hPLayNF2 l [] 0 0 0 0 0 0 0 0 0), Runs.ofT0 (tPLayOk (.tup [.int .i64 0, .int .u16 0, .int .i64 2]) .nilFn .nilFn .nilFn false) (F := 100) (n := 4) (pr := []) ?_, [some 1], fun m => ⟨by rw [hps]; exact denL (R := []) (by decide) rfl rfl (by decide) (by decide), ksOk1 _⟩⟩
      refine (nfPLayNF l [] 0 0 0 0 0 0 0 0 0 _).trans ?_
      refine (if_pos (cdec_true.2 (sayNet (bOk_row rfl rfl rfl) hl2 e0))).trans ?_
      refine (if_pos (cdec_true.2 (sayTag (bOk_row rfl rfl rfl) (by show 14 ≤ l.length; exact h14) htg))).trans ?_
      rfl
    obtain ⟨A, hA, hA2, hAl, hkd⟩ := net_at h2
    have hq : (ipQ l).length = l.length - A := by unfold ipQ; rw [hA]; simp
    rcases hkd with hkd | hkd
    · have e0 : netV .u16 (netR l) = .tup [.int .i64 (A : Int), .int .u16 2048, .int .i64 0] := by unfold netV; rw [hA, hkd, h2]
      have hv : isV6 l = false := by unfold isV6; rw [hkd]; rfl
      have hI : rdI l = r4 (ipQ l) := by unfold rdI; rw [hv]; rfl
      have hS : rdS l = (s4 (ipQ l)) := by unfold rdS; rw [hv]; rfl
      have hE : rdE l = (word (ipQ l) 2) := by unfold rdE; rw [hv]; rfl
      have hP : rdP l = (byt (ipQ l) 9) := by unfold rdP; rw [hv]; rfl
      by_cases hr : r4 (ipQ l) = 0
      case neg =>
        have hr0 := hr
        have hps : lyP l = [(sETH, 0)] := by unfold lyP; rw [if_neg h1, hif, if_neg (by omega), if_pos (by rw [hI]; exact hr)]; rfl
        refine ⟨(AV.sl (some (1, 0)) 1 0 false), (hPLayIFF5 l [] (A : Int) 0 0 0 0 0 0 (r4 (ipQ l)) 0), Runs.ofT0 (tPLayOk (.tup [.int .i64 (A : Int), .int .u16 2048, .int .i64 0]) (.tup [.agg ([.int .i64 0, .int .i64 0, .int .u8 0] ++ adr0 ++ adr0), .int .i64 (r4 (ipQ l))]) .nilFn .nilFn false) (F := 100) (n := 4) (pr := [(35, .bool true)]) ?_, [some 1], fun m => ⟨by rw [hps]; exact denL (R := []) (by decide) rfl rfl (by decide) (by decide), ksOk1 _⟩⟩
        refine (nfPLayIFF l [] (A : Int) 0 0 0 0 0 0 (r4 (ipQ l)) 0 _).trans ?_
        refine (if_pos (cdec_true.2 (sayNet (bOk_row rfl rfl rfl) hl2 e0))).trans ?_
        refine (if_pos (cdec_true.2 (sayTag (bOk_row rfl rfl rfl) (by show 14 ≤ l.length; exact h14) htg))).trans ?_
        refine (if_pos (cdec_true.2 (sayNet (bOk_row rfl rfl rfl) hl2 e0))).trans ?_
        refine (if_pos (by omega)).trans ?_
        refine (if_pos (cdec_true.2 (say4 (l := ipQ l) (bOk_cut rfl rfl (by omega) (ipQ_eq hA)) (by simp <;> omega) (r4_N rfl hr)))).trans ?_
        refine (if_pos (by simp [hr0])).trans ?_
        rfl
      obtain ⟨b0, b1, b2, b3, b5, _⟩ := r4_bounds hr
      have hsp := word_range (rdG l) 0
      have hdp := word_range (rdG l) 2
      have wE : IntKind.i64.wrap ((A : Int) + (word (ipQ l) 2)) = (A : Int) + (word (ipQ l) 2) := wrapI64 (by omega)
      have wS : IntKind.i64.wrap ((A : Int) + (s4 (ipQ l))) = (A : Int) + (s4 (ipQ l)) := wrapI64 (by omega)
      have hG := rdG_eq hA hS hE (by omega) (by omega)
      by_cases hs : segR (byt (ipQ l) 9) (rdG l) = 0
      case neg =>
        have hr0 := hs
        have hps : lyP l = [(sETH, 0), (sIP false, (A : Int))] := by unfold lyP; rw [if_neg h1, hif, if_neg (by omega), if_neg (by rw [hI]; omega), hv, hA, if_pos (by rw [hP]; exact hs)]; rfl
        refine ⟨(AV.sl (some (6, 0)) 2 0 false), (hPLayGFF6 l (ipQ l) (A : Int) (s4 (ipQ l)) (word (ipQ l) 2) (byt (ipQ l) 9) 0 0 0 (segR (byt (ipQ l) 9) (rdG l)) 0), Runs.ofT0 (tPLayOk (.tup [.int .i64 (A : Int), .int .u16 2048, .int .i64 0]) (.tup [.agg ([.int .i64 (s4 (ipQ l)), .int .i64 (word (ipQ l) 2), .int .u8 (byt (ipQ l) 9)] ++ adr4 (ipQ l) 12 ++ adr4 (ipQ l) 16), .int .i64 0]) .nilFn (.tup [.agg [.int .u16 0, .int .u16 0, .int .u8 0], .int .i64 (segR (byt (ipQ l) 9) (rdG l))]) false) (F := 100) (n := 4) (pr := [(35, .bool false), (59, .bool true)]) ?_, [some 6], fun m => ⟨by rw [hps]; exact denL (R := []) (by decide) rfl rfl (by decide) (by decide), ksOk1 _⟩⟩
        refine (nfPLayGFF l (ipQ l) (A : Int) (s4 (ipQ l)) (word (ipQ l) 2) (byt (ipQ l) 9) 0 0 0 (segR (byt (ipQ l) 9) (rdG l)) 0 _).trans ?_
        refine (if_pos (cdec_true.2 (sayNet (bOk_row rfl rfl rfl) hl2 e0))).trans ?_
        refine (if_pos (cdec_true.2 (sayTag (bOk_row rfl rfl rfl) (by show 14 ≤ l.length; exact h14) htg))).trans ?_
        refine (if_pos (cdec_true.2 (sayNet (bOk_row rfl rfl rfl) hl2 e0))).trans ?_
        refine (if_pos (by omega)).trans ?_
        refine (if_pos (cdec_true.2 (say4 (l := ipQ l) (bOk_cut rfl rfl (by omega) (ipQ_eq hA)) (by simp <;> omega) (r4_Y hr)))).trans ?_
        refine (if_pos (AV.beq_self _)).trans ?_
        iterate 2 (refine (if_pos (by simp only [iv, w6, intV, wE, wS, capOf_f]; omega)).trans ?_)
        refine (if_pos (cdec_true.2 (saySegR (l := rdG l) (bOk_cut rfl rfl (by simp only [iv, w6, intV, wE, wS]; omega) (by simp only [iv, w6, intV, wE, wS]; exact hG)) (by simp only [nOf_sl, iv, w6, intV, wE, wS]; omega) ((segRead_N rfl hs).1)))).trans ?_
        refine (if_pos (by simp [hr0])).trans ?_
        rfl
      rcases b5 with hp | hp
      · have hs2 : segR 6 (rdG l) = 0 := by rw [← hp]; exact hs
        have hip := r4_Y hr
        rw [hp] at hip
        have hps : lyP l = [(sETH, 0), (sIP false, (A : Int)), (sL4 false, IntKind.i64.wrap ((A : Int) + (s4 (ipQ l))))] := by unfold lyP; rw [if_neg h1, hif, if_neg (by omega), if_neg (by rw [hI]; omega), hv, hA, if_neg (by rw [hP]; omega), hP, hp, hS, wS]; rfl
        refine ⟨(AV.sl (some (9, 0)) 3 0 false), (hPLayKFFF6 l (ipQ l) (A : Int) (s4 (ipQ l)) (word (ipQ l) 2) 0 (word (rdG l) 0) (word (rdG l) 2) (segF 6 (rdG l)) 0 0), Runs.ofT0 (tPLayOk (.tup [.int .i64 (A : Int), .int .u16 2048, .int .i64 0]) (.tup [.agg ([.int .i64 (s4 (ipQ l)), .int .i64 (word (ipQ l) 2), .int .u8 6] ++ adr4 (ipQ l) 12 ++ adr4 (ipQ l) 16), .int .i64 0]) .nilFn (.tup [.agg [.int .u16 (word (rdG l) 0), .int .u16 (word (rdG l) 2), .int .u8 (segF 6 (rdG l))], .int .i64 0]) false) (F := 100) (n := 4) (pr := [(35, .bool false), (59, .bool false)]) ?_, [some 9], fun m => ⟨by rw [hps]; exact denL (R := []) (by decide) rfl rfl (by decide) (by decide), ksOk1 _⟩⟩
        refine (nfPLayKFFF l (ipQ l) (A : Int) (s4 (ipQ l)) (word (ipQ l) 2) 0 (word (rdG l) 0) (word (rdG l) 2) (segF 6 (rdG l)) 0 0 _).trans ?_
        refine (if_pos (cdec_true.2 (sayNet (bOk_row rfl rfl rfl) hl2 e0))).trans ?_
        refine (if_pos (cdec_true.2 (sayTag (bOk_row rfl rfl rfl) (by show 14 ≤ l.length; exact h14) htg))).trans ?_
        refine (if_pos (cdec_true.2 (sayNet (bOk_row rfl rfl rfl) hl2 e0))).trans ?_
        refine (if_pos (by omega)).trans ?_
        refine (if_pos (cdec_true.2 (say4 (l := ipQ l) (bOk_cut rfl rfl (by omega) (ipQ_eq hA)) (by simp <;> omega) (hip)))).trans ?_
        refine (if_pos (AV.beq_self _)).trans ?_
        iterate 2 (refine (if_pos (by simp only [iv, w6, intV, wE, wS, capOf_f]; omega)).trans ?_)
        refine (if_pos (cdec_true.2 (saySegR (l := rdG l) (bOk_cut rfl rfl (by simp only [iv, w6, intV, wE, wS]; omega) (by simp only [iv, w6, intV, wE, wS]; exact hG)) (by simp only [nOf_sl, iv, w6, intV, wE, wS]; omega) ((segRead_Y hs2).1)))).trans ?_
        rfl
      · have hs2 : segR 17 (rdG l) = 0 := by rw [← hp]; exact hs
        have hip := r4_Y hr
        rw [hp] at hip
        have hps : lyP l = [(sETH, 0), (sIP false, (A : Int)), (sL4 true, IntKind.i64.wrap ((A : Int) + (s4 (ipQ l))))] := by unfold lyP; rw [if_neg h1, hif, if_neg (by omega), if_neg (by rw [hI]; omega), hv, hA, if_neg (by rw [hP]; omega), hP, hp, hS, wS]; rfl
        refine ⟨(AV.sl (some (9, 0)) 3 0 false), (hPLayKFTF6 l (ipQ l) (A : Int) (s4 (ipQ l)) (word (ipQ l) 2) 0 (word (rdG l) 0) (word (rdG l) 2) (segF 17 (rdG l)) 0 0), Runs.ofT0 (tPLayOk (.tup [.int .i64 (A : Int), .int .u16 2048, .int .i64 0]) (.tup [.agg ([.int .i64 (s4 (ipQ l)), .int .i64 (word (ipQ l) 2), .int .u8 17] ++ adr4 (ipQ l) 12 ++ adr4 (ipQ l) 16), .int .i64 0]) .nilFn (.tup [.agg [.int .u16 (word (rdG l) 0), .int .u16 (word (rdG l) 2), .int .u8 (segF 17 (rdG l))], .int .i64 0]) false) (F := 100) (n := 4) (pr := [(35, .bool false), (59, .bool false)]) ?_, [some 9], fun m => ⟨by rw [hps]; exact denL (R := []) (by decide) rfl rfl (by decide) (by decide), ksOk1 _⟩⟩
        refine (nfPLayKFTF l (ipQ l) (A : Int) (s4 (ipQ l)) (word (ipQ l) 2) 0 (word (rdG l) 0) (word (rdG l) 2) (segF 17 (rdG l)) 0 0 _).trans ?_
        refine (if_pos (cdec_true.2 (sayNet (bOk_row rfl rfl rfl) hl2 e0))).trans ?_
        refine (if_pos (cdec_true.2 (sayTag (bOk_row rfl rfl rfl) (by show 14 ≤ l.length; exact h14) htg))).trans ?_
        refine (if_pos (cdec_true.2 (sayNet (bOk_row rfl rfl rfl) hl2 e0))).trans ?_
        refine (if_pos (by omega)).trans ?_
        refine (if_pos (cdec_true.2 (say4 (l := ipQ l) (bOk_cut rfl rfl (by omega) (ipQ_eq hA)) (by simp <;> omega) (hip)))).trans ?_
        refine (if_pos (AV.beq_self _)).trans ?_
        iterate 2 (refine (if_pos (by simp only [iv, w6, intV, wE, wS, capOf_f]; omega)).trans ?_)
        refine (if_pos (cdec_true.2 (saySegR (l := rdG l) (bOk_cut rfl rfl (by simp only [iv, w6, intV, wE, wS]; omega) (by simp only [iv, w6, intV, wE, wS]; exact hG)) (by simp only [nOf_sl, iv, w6, intV, wE, wS]; omega) ((segRead_Y hs2).1)))).trans ?_
        rfl
    · have e0 : netV .u16 (netR l) = .tup [.int .i64 (A : Int), .int .u16 34525, .int .i64 0] := by unfold netV; rw [hA, hkd, h2]
      have hv : isV6 l = true := by unfold isV6; rw [hkd]; rfl
      have hI : rdI l = r6 (ipQ l) := by unfold rdI; rw [hv]; rfl
      have hS : rdS l = 40 := by unfold rdS; rw [hv]; rfl
      have hE : rdE l = (40 + word (ipQ l) 4) := by unfold rdE; rw [hv]; rfl
      have hP : rdP l = (byt (ipQ l) 6) := by unfold rdP; rw [hv]; rfl
      by_cases hr : r6 (ipQ l) = 0
      case neg =>
        have hr0 := hr
        have hps : lyP l = [(sETH, 0)] := by unfold lyP; rw [if_neg h1, hif, if_neg (by omega), if_pos (by rw [hI]; exact hr)]; rfl
        refine ⟨(AV.sl (some (1, 0)) 1 0 false), (hPLayITF5 l [] (A : Int) 0 0 0 0 0 0 (r6 (ipQ l)) 0), Runs.ofT0 (tPLayOk (.tup [.int .i64 (A : Int), .int .u16 34525, .int .i64 0]) .nilFn (.tup [.agg ([.int .i64 0, .int .u8 0] ++ adr0 ++ adr0), .int .i64 (r6 (ipQ l))]) .nilFn false) (F := 100) (n := 4) (pr := [(35, .bool true)]) ?_, [some 1], fun m => ⟨by rw [hps]; exact denL (R := []) (by decide) rfl rfl (by decide) (by decide), ksOk1 _⟩⟩
        refine (nfPLayITF l [] (A : Int) 0 0 0 0 0 0 (r6 (ipQ l)) 0 _).trans ?_
        refine (if_pos (cdec_true.2 (sayNet (bOk_row rfl rfl rfl) hl2 e0))).trans ?_
        refine (if_pos (cdec_true.2 (sayTag (bOk_row rfl rfl rfl) (by show 14 ≤ l.length; exact h14) htg))).trans ?_
        refine (if_pos (cdec_true.2 (sayNet (bOk_row rfl rfl rfl) hl2 e0))).trans ?_
        refine (if_pos (by omega)).trans ?_
        refine (if_pos (cdec_true.2 (say6 (l := ipQ l) (bOk_cut rfl rfl (by omega) (ipQ_eq hA)) (by simp <;> omega) ((r6_N rfl hr).1)))).trans ?_
        refine (if_pos (by simp [hr0])).trans ?_
        rfl
      obtain ⟨b0, b3, b5⟩ := r6_bounds hr
      have b1 : (20 : Int) ≤ 40 := by decide
      have b2 : (40 : Int) ≤ 40 + word (ipQ l) 4 := by have := word_range (ipQ l) 4; omega
      have hsp := word_range (rdG l) 0
      have hdp := word_range (rdG l) 2
      have wE : IntKind.i64.wrap ((A : Int) + (40 + word (ipQ l) 4)) = (A : Int) + (40 + word (ipQ l) 4) := wrapI64 (by omega)
      have wS : IntKind.i64.wrap ((A : Int) + 40) = (A : Int) + 40 := wrapI64 (by omega)
      have hG := rdG_eq hA hS hE (by omega) (by omega)
      by_cases hs : segR (byt (ipQ l) 6) (rdG l) = 0
      case neg =>
        have hr0 := hs
        have hps : lyP l = [(sETH, 0), (sIP true, (A : Int))] := by unfold lyP; rw [if_neg h1, hif, if_neg (by omega), if_neg (by rw [hI]; omega), hv, hA, if_pos (by rw [hP]; exact hs)]; rfl
        refine ⟨(AV.sl (some (6, 0)) 2 0 false), (hPLayGTF6 l (ipQ l) (A : Int) 40 (40 + word (ipQ l) 4) (byt (ipQ l) 6) 0 0 0 (segR (byt (ipQ l) 6) (rdG l)) 0), Runs.ofT0 (tPLayOk (.tup [.int .i64 (A : Int), .int .u16 34525, .int .i64 0]) .nilFn (.tup [.agg ([.int .i64 (40 + word (ipQ l) 4), .int .u8 (byt (ipQ l) 6)] ++ adr16 (ipQ l) 8 ++ adr16 (ipQ l) 24), .int .i64 0]) (.tup [.agg [.int .u16 0, .int .u16 0, .int .u8 0], .int .i64 (segR (byt (ipQ l) 6) (rdG l))]) false) (F := 100) (n := 4) (pr := [(35, .bool false), (59, .bool true)]) ?_, [some 6], fun m => ⟨by rw [hps]; exact denL (R := []) (by decide) rfl rfl (by decide) (by decide), ksOk1 _⟩⟩
        refine (nfPLayGTF l (ipQ l) (A : Int) 40 (40 + word (ipQ l) 4) (byt (ipQ l) 6) 0 0 0 (segR (byt (ipQ l) 6) (rdG l)) 0 _).trans ?_
        refine (if_pos (cdec_true.2 (sayNet (bOk_row rfl rfl rfl) hl2 e0))).trans ?_
        refine (if_pos (cdec_true.2 (sayTag (bOk_row rfl rfl rfl) (by show 14 ≤ l.length; exact h14) htg))).trans ?_
        refine (if_pos (cdec_true.2 (sayNet (bOk_row rfl rfl rfl) hl2 e0))).trans ?_
        refine (if_pos (by omega)).trans ?_
        refine (if_pos (cdec_true.2 (say6 (l := ipQ l) (bOk_cut rfl rfl (by omega) (ipQ_eq hA)) (by simp <;> omega) ((r6_Y hr).1)))).trans ?_
        refine (if_pos (AV.beq_self _)).trans ?_
        iterate 2 (refine (if_pos (by simp only [iv, w6, intV, wE, wS, capOf_f]; omega)).trans ?_)
        refine (if_pos (cdec_true.2 (saySegR (l := rdG l) (bOk_cut rfl rfl (by simp only [iv, w6, intV, wE, wS]; omega) (by simp only [iv, w6, intV, wE, wS]; exact hG)) (by simp only [nOf_sl, iv, w6, intV, wE, wS]; omega) ((segRead_N rfl hs).1)))).trans ?_
        refine (if_pos (by simp [hr0])).trans ?_
        rfl
      rcases b5 with hp | hp
      · have hs2 : segR 6 (rdG l) = 0 := by rw [← hp]; exact hs
        have hip := (r6_Y hr).1
        rw [hp] at hip
        have hps : lyP l = [(sETH, 0), (sIP true, (A : Int)), (sL4 false, IntKind.i64.wrap ((A : Int) + 40))] := by unfold lyP; rw [if_neg h1, hif, if_neg (by omega), if_neg (by rw [hI]; omega), hv, hA, if_neg (by rw [hP]; omega), hP, hp, hS, wS]; rfl
        refine ⟨(AV.sl (some (9, 0)) 3 0 false), (hPLayKTFF6 l (ipQ l) (A : Int) 40 (40 + word (ipQ l) 4) 0 (word (rdG l) 0) (word (rdG l) 2) (segF 6 (rdG l)) 0 0), Runs.ofT0 (tPLayOk (.tup [.int .i64 (A : Int), .int .u16 34525, .int .i64 0]) .nilFn (.tup [.agg ([.int .i64 (40 + word (ipQ l) 4), .int .u8 6] ++ adr16 (ipQ l) 8 ++ adr16 (ipQ l) 24), .int .i64 0]) (.tup [.agg [.int .u16 (word (rdG l) 0), .int .u16 (word (rdG l) 2), .int .u8 (segF 6 (rdG l))], .int .i64 0]) false) (F := 100) (n := 4) (pr := [(35, .bool false), (59, .bool false)]) ?_, [some 9], fun m => ⟨by rw [hps]; exact denL (R := []) (by decide) rfl rfl (by decide) (by decide), ksOk1 _⟩⟩
        refine (nfPLayKTFF l (ipQ l) (A : Int) 40 (40 + word (ipQ l) 4) 0 (word (rdG l) 0) (word (rdG l) 2) (segF 6 (rdG l)) 0 0 _).trans ?_
        refine (if_pos (cdec_true.2 (sayNet (bOk_row rfl rfl rfl) hl2 e0))).trans ?_
        refine (if_pos (cdec_true.2 (sayTag (bOk_row rfl rfl rfl) (by show 14 ≤ l.length; exact h14) htg))).trans ?_
        refine (if_pos (cdec_true.2 (sayNet (bOk_row rfl rfl rfl) hl2 e0))).trans ?_
        refine (if_pos (by omega)).trans ?_
        refine (if_pos (cdec_true.2 (say6 (l := ipQ l) (bOk_cut rfl rfl (by omega) (ipQ_eq hA)) (by simp <;> omega) (hip)))).trans ?_
        refine (if_pos (AV.beq_self _)).trans ?_
        iterate 2 (refine (if_pos (by simp only [iv, w6, intV, wE, wS, capOf_f]; omega)).trans ?_)
        refine (if_pos (cdec_true.2 (saySegR (l := rdG l) (bOk_cut rfl rfl (by simp only [iv, w6, intV, wE, wS]; omega) (by simp only [iv, w6, intV, wE, wS]; exact hG)) (by simp only [nOf_sl, iv, w6, intV, wE, wS]; omega) ((segRead_Y hs2).1)))).trans ?_
        rfl
      · have hs2 : segR 17 (rdG l) = 0 := by rw [← hp]; exact hs
        have hip := (r6_Y hr).1
        rw [hp] at hip
        have hps : lyP l = [(sETH, 0), (sIP true, (A : Int)), (sL4 true, IntKind.i64.wrap ((A : Int) + 40))] := by unfold lyP; rw [if_neg h1, hif, if_neg (by omega), if_neg (by rw [hI]; omega), hv, hA, if_neg (by rw [hP]; omega), hP, hp, hS, wS]; rfl
        refine ⟨(AV.sl (some (9, 0)) 3 0 false), (hPLayKTTF6 l (ipQ l) (A : Int) 40 (40 + word (ipQ l) 4) 0 (word (rdG l) 0) (word (rdG l) 2) (segF 17 (rdG l)) 0 0), Runs.ofT0 (tPLayOk (.tup [.int .i64 (A : Int), .int .u16 34525, .int .i64 0]) .nilFn (.tup [.agg ([.int .i64 (40 + word (ipQ l) 4), .int .u8 17] ++ adr16 (ipQ l) 8 ++ adr16 (ipQ l) 24), .int .i64 0]) (.tup [.agg [.int .u16 (word (rdG l) 0), .int .u16 (word (rdG l) 2), .int .u8 (segF 17 (rdG l))], .int .i64 0]) false) (F := 100) (n := 4) (pr := [(35, .bool false), (59, .bool false)]) ?_, [some 9], fun m => ⟨by rw [hps]; exact denL (R := []) (by decide) rfl rfl (by decide) (by decide), ksOk1 _⟩⟩
        refine (nfPLayKTTF l (ipQ l) (A : Int) 40 (40 + word (ipQ l) 4) 0 (word (rdG l) 0) (word (rdG l) 2) (segF 17 (rdG l)) 0 0 _).trans ?_
        refine (if_pos (cdec_true.2 (sayNet (bOk_row rfl rfl rfl) hl2 e0))).trans ?_
        refine (if_pos (cdec_true.2 (sayTag (bOk_row rfl rfl rfl) (by show 14 ≤ l.length; exact h14) htg))).trans ?_
        refine (if_pos (cdec_true.2 (sayNet (bOk_row rfl rfl rfl) hl2 e0))).trans ?_
        refine (if_pos (by omega)).trans ?_
        refine (if_pos (cdec_true.2 (say6 (l := ipQ l) (bOk_cut rfl rfl (by omega) (ipQ_eq hA)) (by simp <;> omega) (hip)))).trans ?_
        refine (if_pos (AV.beq_self _)).trans ?_
        iterate 2 (refine (if_pos (by simp only [iv, w6, intV, wE, wS, capOf_f]; omega)).trans ?_)
        refine (if_pos (cdec_true.2 (saySegR (l := rdG l) (bOk_cut rfl rfl (by simp only [iv, w6, intV, wE, wS]; omega) (by simp only [iv, w6, intV, wE, wS]; exact hG)) (by simp only [nOf_sl, iv, w6, intV, wE, wS]; omega) ((segRead_Y hs2).1)))).trans ?_
        rfl

theorem sPLay (L : List (Nat × AV × AHeap)) : SoundE Try.prog 48 (entF (eRel LayR L)) := by
  refine relR_sound (fun args h v new hR => ?_) L
  cases hR with
  | mk l _ a k n C g hl hk hn hC =>
  subst hk hn hC
  obtain ⟨gb, rfl⟩ := g
  obtain ⟨v1, h1, hr, ks, hd⟩ := walkPLay (bOf h a) hl
  exact ⟨[slB 0 (bOf h a)], [farB (bOf h a)], .cons _ _ _ _ _ _ _ (bOk_canon gb 0) (.nil _), v1, h1, hr, ks, (hd _).1, (hd 0).2⟩

end Go.Proofs.Ythbneddbigclfaa.L
