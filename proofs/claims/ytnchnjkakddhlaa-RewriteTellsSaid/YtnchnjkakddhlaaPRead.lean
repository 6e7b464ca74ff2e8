/- frame's Read. -/
import Derived.Test.YtnchnjkakddhlaaPReadN
set_option autoImplicit false
set_option maxRecDepth 100000
set_option linter.unusedVariables false
set_option linter.unusedSimpArgs false
namespace Go.Proofs.Ytnchnjkakddhlaa.L
open Go Go.Abs

theorem sayNet {h : AHeap} {a v : AV} {l : List UInt8} (g : bOk h a = true ∧ bOf h a = l) (hn : nOf a ≤ 70368744177664) (hr : netV .u16 (netR l) = v) : Says eNet [a] h v [] := ⟨by
  show some (bOk h a && decide (nOf a ≤ 70368744177664), netV .u16 (netR (bOf h a)), h) = _
  rw [g.1, g.2, hr, decide_eq_true hn, List.append_nil]; rfl⟩
theorem say4 {h : AHeap} {a v : AV} {l : List UInt8} (g : bOk h a = true ∧ bOf h a = l) (hn : nOf a ≤ 1000000000000) (hr : v4Read l = v) : Says eFour [a] h v [] := ⟨by
  show some (bOk h a && decide (nOf a ≤ 1000000000000), v4Read (bOf h a), h) = _
  rw [g.1, g.2, hr, decide_eq_true hn, List.append_nil]; rfl⟩
theorem say6 {h : AHeap} {a v : AV} {l : List UInt8} (g : bOk h a = true ∧ bOf h a = l) (hn : nOf a ≤ 1000000000000) (hr : v6Read l = v) : Says eSix [a] h v [] := ⟨by
  show some (bOk h a && decide (nOf a ≤ 1000000000000), v6Read (bOf h a), h) = _
  rw [g.1, g.2, hr, decide_eq_true hn, List.append_nil]; rfl⟩

theorem walkPRead (l : List UInt8) (hl : l.length ≤ 1000000000000) : ∃ h1, Runs Try.prog 18 [slB 0 l] [farB l] (vRead l) h1 := by
  have hl2 : l.length ≤ 70368744177664 := by omega
  by_cases hn : (netR l).2.2 = 0
  case neg =>
    have hne := hn
    have e0 : netV .u16 (netR l) = .tup [.int .i64 0, .int .u16 0, .int .i64 (netR l).2.2] := by
      rcases netR_cases l with ⟨h, _⟩ | ⟨h1, h2, _⟩
      · exact absurd h hn
      · unfold netV; rw [h1, h2]
    rw [vRead_N (readR_net rfl hn) hn]
    refine Runs.valT0 (tPReadOk 0 0 (netR l).2.2 .nilFn .nilFn .nilFn) (F := 100) (n := 4) (pr := [(13, .bool true)]) ?_
    refine (nfPReadA l 0 0 0 0 0 0 0 (netR l).2.2 0 0 0 0 0 0 0 0 0 0 0 0 0 0 0 0 0 0 0 0 0 0 0 0 0 0 0 0 0 0 0 0 _).trans ?_
    refine (if_pos (cdec_true.2 (sayNet (bOk_row rfl rfl rfl) hl2 e0))).trans ?_
    refine (if_pos (by simp [intV, hne])).trans ?_
    rfl
  obtain ⟨A, hA, hA2, hAl, hkd⟩ := net_at hn
  have hq : (ipQ l).length = l.length - A := by unfold ipQ; rw [hA]; simp
  by_cases hlen : 65535 < l.length
  case pos =>
    rw [vRead_N (readR_long hn hlen) (by decide)]
    rcases hkd with hk | hk
    · have e0 : netV .u16 (netR l) = .tup [.int .i64 (A : Int), .int .u16 2048, .int .i64 0] := by unfold netV; rw [hA, hk, hn]
      refine Runs.valT0 (tPReadOk (A : Int) 2048 0 .nilFn .nilFn .nilFn) (F := 100) (n := 4) (pr := [(13, .bool false), (19, .bool true)]) ?_
      refine (nfPReadB4 l (A : Int) 0 0 0 0 0 0 0 0 0 0 0 0 0 0 0 0 0 0 0 0 0 0 0 0 0 0 0 0 0 0 0 0 0 0 0 0 0 0 0 _).trans ?_
      refine (if_pos (cdec_true.2 (sayNet (bOk_row rfl rfl rfl) hl2 e0))).trans ?_
      refine (if_pos (decide_eq_true (by omega))).trans ?_
      rfl
    · have e0 : netV .u16 (netR l) = .tup [.int .i64 (A : Int), .int .u16 34525, .int .i64 0] := by unfold netV; rw [hA, hk, hn]
      refine Runs.valT0 (tPReadOk (A : Int) 34525 0 .nilFn .nilFn .nilFn) (F := 100) (n := 4) (pr := [(13, .bool false), (19, .bool true)]) ?_
      refine (nfPReadB6 l (A : Int) 0 0 0 0 0 0 0 0 0 0 0 0 0 0 0 0 0 0 0 0 0 0 0 0 0 0 0 0 0 0 0 0 0 0 0 0 0 0 0 _).trans ?_
      refine (if_pos (cdec_true.2 (sayNet (bOk_row rfl rfl rfl) hl2 e0))).trans ?_
      refine (if_pos (decide_eq_true (by omega))).trans ?_
      rfl
  rcases hkd with hk | hk
  · have e0 : netV .u16 (netR l) = .tup [.int .i64 (A : Int), .int .u16 2048, .int .i64 0] := by unfold netV; rw [hA, hk, hn]
    have hv : isV6 l = false := by unfold isV6; rw [hk]; rfl
    have hI : rdI l = r4 (ipQ l) := by unfold rdI; rw [hv]; rfl
    have hS : rdS l = (s4 (ipQ l)) := by unfold rdS; rw [hv]; rfl
    have hE : rdE l = (word (ipQ l) 2) := by unfold rdE; rw [hv]; rfl
    have hP : rdP l = (byt (ipQ l) 9) := by unfold rdP; rw [hv]; rfl
    by_cases hr : r4 (ipQ l) = 0
    case neg =>
      have hne := hr
      rw [vRead_N (readR_ip hn hlen hI hr) hr]
      refine Runs.valT0 (tPReadOk (A : Int) 2048 0 (.tup [.agg ([.int .i64 0, .int .i64 0, .int .u8 0] ++ adr0 ++ adr0), .int .i64 (r4 (ipQ l))]) .nilFn .nilFn) (F := 100) (n := 4) (pr := [(13, .bool false), (19, .bool false), (27, .bool true)]) ?_
      refine (nfPReadD4 l (A : Int) 0 0 0 0 0 0 (r4 (ipQ l)) 0 0 0 0 0 0 0 0 0 0 0 0 0 0 0 0 0 0 0 0 0 0 0 0 0 0 0 0 0 0 0 0 _).trans ?_
      refine (if_pos (cdec_true.2 (sayNet (bOk_row rfl rfl rfl) hl2 e0))).trans ?_
      refine (if_pos (decide_eq_false (by omega))).trans ?_
      refine (if_pos (cdec_true.2 (sayNet (bOk_row rfl rfl rfl) hl2 e0))).trans ?_
      refine (if_pos (by first | exact True.intro | rfl | omega | (simp; done) | (simp; omega) | (simp [capOf]; done) | (simp [capOf]; omega))).trans ?_
      refine (if_pos (cdec_true.2 (say4 (l := ipQ l) (bOk_cut rfl rfl (by omega) (ipQ_eq hA)) (by simp <;> omega) (r4_N rfl hr)))).trans ?_
      refine (if_pos (by simp [intV, hne])).trans ?_
      rfl
    obtain ⟨b0, b1, b2, b3, b5, _⟩ := r4_bounds hr
    have hsp := word_range (rdG l) 0
    have hdp := word_range (rdG l) 2
    have wE : IntKind.i64.wrap ((A : Int) + (word (ipQ l) 2)) = (A : Int) + (word (ipQ l) 2) := wrapI64 (by omega)
    have wS : IntKind.i64.wrap ((A : Int) + (s4 (ipQ l))) = (A : Int) + (s4 (ipQ l)) := wrapI64 (by omega)
    have hG := rdG_eq hA hS hE (by omega) (by omega)
    by_cases hs : segR (byt (ipQ l) 9) (rdG l) = 0
    case neg =>
      have hne := hs
      have hrr : readR l = segR (byt (ipQ l) 9) (rdG l) := by rw [readR_seg hn hlen (hI.trans hr), hP]
      rw [vRead_N hrr hs]
      refine Runs.valT0 (tPReadOk (A : Int) 2048 0 (.tup [.agg ([.int .i64 (s4 (ipQ l)), .int .i64 (word (ipQ l) 2), .int .u8 (byt (ipQ l) 9)] ++ adrV false (byt (ipQ l) 12) (byt (ipQ l) 13) (byt (ipQ l) 14) (byt (ipQ l) 15) 0 0 0 0 0 0 0 0 0 0 0 0 ++ adrV false (byt (ipQ l) 16) (byt (ipQ l) 17) (byt (ipQ l) 18) (byt (ipQ l) 19) 0 0 0 0 0 0 0 0 0 0 0 0), .int .i64 0]) .nilFn (.tup [.agg [.int .u16 0, .int .u16 0, .int .u8 0], .int .i64 (segR (byt (ipQ l) 9) (rdG l))])) (F := 100) (n := 4) (pr := [(13, .bool false), (19, .bool false), (27, .bool false), (44, .bool true)]) ?_
      refine (nfPReadE4 l (A : Int) (s4 (ipQ l)) (word (ipQ l) 2) (byt (ipQ l) 9) 0 0 0 (segR (byt (ipQ l) 9) (rdG l)) (byt (ipQ l) 12) (byt (ipQ l) 13) (byt (ipQ l) 14) (byt (ipQ l) 15) 0 0 0 0 0 0 0 0 0 0 0 0 (byt (ipQ l) 16) (byt (ipQ l) 17) (byt (ipQ l) 18) (byt (ipQ l) 19) 0 0 0 0 0 0 0 0 0 0 0 0 _).trans ?_
      refine (if_pos (cdec_true.2 (sayNet (bOk_row rfl rfl rfl) hl2 e0))).trans ?_
      refine (if_pos (decide_eq_false (by omega))).trans ?_
      refine (if_pos (cdec_true.2 (sayNet (bOk_row rfl rfl rfl) hl2 e0))).trans ?_
      refine (if_pos (by first | exact True.intro | rfl | omega | (simp; done) | (simp; omega) | (simp [capOf]; done) | (simp [capOf]; omega))).trans ?_
      refine (if_pos (cdec_true.2 (say4 (l := ipQ l) (bOk_cut rfl rfl (by omega) (ipQ_eq hA)) (by simp <;> omega) (r4_Y hr)))).trans ?_
      refine (if_pos (AV.beq_self _)).trans ?_
      refine (if_pos (by simp only [intV, wE, wS, capOf_f]; omega)).trans ?_
      refine (if_pos (by simp only [intV, wE, wS, capOf_f]; omega)).trans ?_
      refine (if_pos (cdec_true.2 (saySegR (l := rdG l) (bOk_cut rfl rfl (by simp only [intV, wE, wS]; omega) (by simp only [intV, wE, wS]; exact hG)) (by simp only [nOf_sl, intV, wE, wS]; omega) (segRead_N rfl hs).1))).trans ?_
      refine (if_pos (by simp [intV, hne])).trans ?_
      rfl
    have hrr : readR l = 0 := by rw [readR_seg hn hlen (hI.trans hr), hP, hs]
    have hvr : vRead l = .tup [.agg (viewOf false A ((A : Int) + (s4 (ipQ l))) ((A : Int) + (word (ipQ l) 2)) (byt (ipQ l) 9) (adr4 (ipQ l) 12) (adr4 (ipQ l) 16) (word (rdG l) 0) (word (rdG l) 2) (segF (byt (ipQ l) 9) (rdG l))), .int .i64 0] := by
      unfold vRead viewL
      rw [hrr, if_pos rfl, hA, hS, hE, hP, hv]; unfold rdSrc rdDst; rw [hv]; rfl
    rw [hvr]
    refine Runs.valT0 (tPReadOk (A : Int) 2048 0 (.tup [.agg ([.int .i64 (s4 (ipQ l)), .int .i64 (word (ipQ l) 2), .int .u8 (byt (ipQ l) 9)] ++ adrV false (byt (ipQ l) 12) (byt (ipQ l) 13) (byt (ipQ l) 14) (byt (ipQ l) 15) 0 0 0 0 0 0 0 0 0 0 0 0 ++ adrV false (byt (ipQ l) 16) (byt (ipQ l) 17) (byt (ipQ l) 18) (byt (ipQ l) 19) 0 0 0 0 0 0 0 0 0 0 0 0), .int .i64 0]) .nilFn (.tup [.agg [.int .u16 (word (rdG l) 0), .int .u16 (word (rdG l) 2), .int .u8 (segF (byt (ipQ l) 9) (rdG l))], .int .i64 0])) (F := 100) (n := 4) (pr := [(13, .bool false), (19, .bool false), (27, .bool false), (44, .bool false)]) ?_
    refine (nfPReadC4 l (A : Int) (s4 (ipQ l)) (word (ipQ l) 2) (byt (ipQ l) 9) (word (rdG l) 0) (word (rdG l) 2) (segF (byt (ipQ l) 9) (rdG l)) 0 (byt (ipQ l) 12) (byt (ipQ l) 13) (byt (ipQ l) 14) (byt (ipQ l) 15) 0 0 0 0 0 0 0 0 0 0 0 0 (byt (ipQ l) 16) (byt (ipQ l) 17) (byt (ipQ l) 18) (byt (ipQ l) 19) 0 0 0 0 0 0 0 0 0 0 0 0 _).trans ?_
    refine (if_pos (cdec_true.2 (sayNet (bOk_row rfl rfl rfl) hl2 e0))).trans ?_
    refine (if_pos (decide_eq_false (by omega))).trans ?_
    refine (if_pos (cdec_true.2 (sayNet (bOk_row rfl rfl rfl) hl2 e0))).trans ?_
    refine (if_pos (by first | exact True.intro | rfl | omega | (simp; done) | (simp; omega) | (simp [capOf]; done) | (simp [capOf]; omega))).trans ?_
    refine (if_pos (cdec_true.2 (say4 (l := ipQ l) (bOk_cut rfl rfl (by omega) (ipQ_eq hA)) (by simp <;> omega) (r4_Y hr)))).trans ?_
    refine (if_pos (AV.beq_self _)).trans ?_
    refine (if_pos (by simp only [intV, wE, wS, capOf_f]; omega)).trans ?_
    refine (if_pos (by simp only [intV, wE, wS, capOf_f]; omega)).trans ?_
    refine (if_pos (cdec_true.2 (saySegR (l := rdG l) (bOk_cut rfl rfl (by simp only [intV, wE, wS]; omega) (by simp only [intV, wE, wS]; exact hG)) (by simp only [nOf_sl, intV, wE, wS]; omega) (segRead_Y hs).1))).trans ?_
    refine (if_pos (AV.beq_self _)).trans ?_
    refine (if_pos (AV.beq_self _)).trans ?_
    refine (if_pos (AV.beq_self _)).trans ?_
    simp only [intV, wE, wS]
    rfl
  · have e0 : netV .u16 (netR l) = .tup [.int .i64 (A : Int), .int .u16 34525, .int .i64 0] := by unfold netV; rw [hA, hk, hn]
    have hv : isV6 l = true := by unfold isV6; rw [hk]; rfl
    have hI : rdI l = r6 (ipQ l) := by unfold rdI; rw [hv]; rfl
    have hS : rdS l = 40 := by unfold rdS; rw [hv]; rfl
    have hE : rdE l = (40 + word (ipQ l) 4) := by unfold rdE; rw [hv]; rfl
    have hP : rdP l = (byt (ipQ l) 6) := by unfold rdP; rw [hv]; rfl
    by_cases hr : r6 (ipQ l) = 0
    case neg =>
      have hne := hr
      rw [vRead_N (readR_ip hn hlen hI hr) hr]
      refine Runs.valT0 (tPReadOk (A : Int) 34525 0 .nilFn (.tup [.agg ([.int .i64 0, .int .u8 0] ++ adr0 ++ adr0), .int .i64 (r6 (ipQ l))]) .nilFn) (F := 100) (n := 4) (pr := [(13, .bool false), (19, .bool false), (27, .bool true)]) ?_
      refine (nfPReadD6 l (A : Int) 0 0 0 0 0 0 (r6 (ipQ l)) 0 0 0 0 0 0 0 0 0 0 0 0 0 0 0 0 0 0 0 0 0 0 0 0 0 0 0 0 0 0 0 0 _).trans ?_
      refine (if_pos (cdec_true.2 (sayNet (bOk_row rfl rfl rfl) hl2 e0))).trans ?_
      refine (if_pos (decide_eq_false (by omega))).trans ?_
      refine (if_pos (cdec_true.2 (sayNet (bOk_row rfl rfl rfl) hl2 e0))).trans ?_
      refine (if_pos (by first | exact True.intro | rfl | omega | (simp; done) | (simp; omega) | (simp [capOf]; done) | (simp [capOf]; omega))).trans ?_
      refine (if_pos (cdec_true.2 (say6 (l := ipQ l) (bOk_cut rfl rfl (by omega) (ipQ_eq hA)) (by simp <;> omega) (r6_N rfl hr).1))).trans ?_
      refine (if_pos (by simp [intV, hne])).trans ?_
      rfl
    obtain ⟨b0, b3, b5⟩ := r6_bounds hr
    have b1 : (20 : Int) ≤ 40 := by decide
    have b2 : (40 : Int) ≤ 40 + word (ipQ l) 4 := by have := word_range (ipQ l) 4; omega
    have hsp := word_range (rdG l) 0
    have hdp := word_range (rdG l) 2
    have wE : IntKind.i64.wrap ((A : Int) + (40 + word (ipQ l) 4)) = (A : Int) + (40 + word (ipQ l) 4) := wrapI64 (by omega)
    have wS : IntKind.i64.wrap ((A : Int) + 40) = (A : Int) + 40 := wrapI64 (by omega)
    have hG := rdG_eq hA hS hE (by omega) (by omega)
    by_cases hs : segR (byt (ipQ l) 6) (rdG l) = 0
    case neg =>
      have hne := hs
      have hrr : readR l = segR (byt (ipQ l) 6) (rdG l) := by rw [readR_seg hn hlen (hI.trans hr), hP]
      rw [vRead_N hrr hs]
      refine Runs.valT0 (tPReadOk (A : Int) 34525 0 .nilFn (.tup [.agg ([.int .i64 (40 + word (ipQ l) 4), .int .u8 (byt (ipQ l) 6)] ++ adrV true (byt (ipQ l) 8) (byt (ipQ l) 9) (byt (ipQ l) 10) (byt (ipQ l) 11) (byt (ipQ l) 12) (byt (ipQ l) 13) (byt (ipQ l) 14) (byt (ipQ l) 15) (byt (ipQ l) 16) (byt (ipQ l) 17) (byt (ipQ l) 18) (byt (ipQ l) 19) (byt (ipQ l) 20) (byt (ipQ l) 21) (byt (ipQ l) 22) (byt (ipQ l) 23) ++ adrV true (byt (ipQ l) 24) (byt (ipQ l) 25) (byt (ipQ l) 26) (byt (ipQ l) 27) (byt (ipQ l) 28) (byt (ipQ l) 29) (byt (ipQ l) 30) (byt (ipQ l) 31) (byt (ipQ l) 32) (byt (ipQ l) 33) (byt (ipQ l) 34) (byt (ipQ l) 35) (byt (ipQ l) 36) (byt (ipQ l) 37) (byt (ipQ l) 38) (byt (ipQ l) 39)), .int .i64 0]) (.tup [.agg [.int .u16 0, .int .u16 0, .int .u8 0], .int .i64 (segR (byt (ipQ l) 6) (rdG l))])) (F := 100) (n := 4) (pr := [(13, .bool false), (19, .bool false), (27, .bool false), (44, .bool true)]) ?_
      refine (nfPReadE6 l (A : Int) 40 (40 + word (ipQ l) 4) (byt (ipQ l) 6) 0 0 0 (segR (byt (ipQ l) 6) (rdG l)) (byt (ipQ l) 8) (byt (ipQ l) 9) (byt (ipQ l) 10) (byt (ipQ l) 11) (byt (ipQ l) 12) (byt (ipQ l) 13) (byt (ipQ l) 14) (byt (ipQ l) 15) (byt (ipQ l) 16) (byt (ipQ l) 17) (byt (ipQ l) 18) (byt (ipQ l) 19) (byt (ipQ l) 20) (byt (ipQ l) 21) (byt (ipQ l) 22) (byt (ipQ l) 23) (byt (ipQ l) 24) (byt (ipQ l) 25) (byt (ipQ l) 26) (byt (ipQ l) 27) (byt (ipQ l) 28) (byt (ipQ l) 29) (byt (ipQ l) 30) (byt (ipQ l) 31) (byt (ipQ l) 32) (byt (ipQ l) 33) (byt (ipQ l) 34) (byt (ipQ l) 35) (byt (ipQ l) 36) (byt (ipQ l) 37) (byt (ipQ l) 38) (byt (ipQ l) 39) _).trans ?_
      refine (if_pos (cdec_true.2 (sayNet (bOk_row rfl rfl rfl) hl2 e0))).trans ?_
      refine (if_pos (decide_eq_false (by omega))).trans ?_
      refine (if_pos (cdec_true.2 (sayNet (bOk_row rfl rfl rfl) hl2 e0))).trans ?_
      refine (if_pos (by first | exact True.intro | rfl | omega | (simp; done) | (simp; omega) | (simp [capOf]; done) | (simp [capOf]; omega))).trans ?_
      refine (if_pos (cdec_true.2 (say6 (l := ipQ l) (bOk_cut rfl rfl (by omega) (ipQ_eq hA)) (by simp <;> omega) (r6_Y hr).1))).trans ?_
      refine (if_pos (AV.beq_self _)).trans ?_
      refine (if_pos (by simp only [intV, wE, wS, capOf_f]; omega)).trans ?_
      refine (if_pos (by simp only [intV, wE, wS, capOf_f]; omega)).trans ?_
      refine (if_pos (cdec_true.2 (saySegR (l := rdG l) (bOk_cut rfl rfl (by simp only [intV, wE, wS]; omega) (by simp only [intV, wE, wS]; exact hG)) (by simp only [nOf_sl, intV, wE, wS]; omega) (segRead_N rfl hs).1))).trans ?_
      refine (if_pos (by simp [intV, hne])).trans ?_
      rfl
    have hrr : readR l = 0 := by rw [readR_seg hn hlen (hI.trans hr), hP, hs]
    have hvr : vRead l = .tup [.agg (viewOf true A ((A : Int) + 40) ((A : Int) + (40 + word (ipQ l) 4)) (byt (ipQ l) 6) (adr16 (ipQ l) 8) (adr16 (ipQ l) 24) (word (rdG l) 0) (word (rdG l) 2) (segF (byt (ipQ l) 6) (rdG l))), .int .i64 0] := by
      unfold vRead viewL
      rw [hrr, if_pos rfl, hA, hS, hE, hP, hv]; unfold rdSrc rdDst; rw [hv]; rfl
    rw [hvr]
    refine Runs.valT0 (tPReadOk (A : Int) 34525 0 .nilFn (.tup [.agg ([.int .i64 (40 + word (ipQ l) 4), .int .u8 (byt (ipQ l) 6)] ++ adrV true (byt (ipQ l) 8) (byt (ipQ l) 9) (byt (ipQ l) 10) (byt (ipQ l) 11) (byt (ipQ l) 12) (byt (ipQ l) 13) (byt (ipQ l) 14) (byt (ipQ l) 15) (byt (ipQ l) 16) (byt (ipQ l) 17) (byt (ipQ l) 18) (byt (ipQ l) 19) (byt (ipQ l) 20) (byt (ipQ l) 21) (byt (ipQ l) 22) (byt (ipQ l) 23) ++ adrV true (byt (ipQ l) 24) (byt (ipQ l) 25) (byt (ipQ l) 26) (byt (ipQ l) 27) (byt (ipQ l) 28) (byt (ipQ l) 29) (byt (ipQ l) 30) (byt (ipQ l) 31) (byt (ipQ l) 32) (byt (ipQ l) 33) (byt (ipQ l) 34) (byt (ipQ l) 35) (byt (ipQ l) 36) (byt (ipQ l) 37) (byt (ipQ l) 38) (byt (ipQ l) 39)), .int .i64 0]) (.tup [.agg [.int .u16 (word (rdG l) 0), .int .u16 (word (rdG l) 2), .int .u8 (segF (byt (ipQ l) 6) (rdG l))], .int .i64 0])) (F := 100) (n := 4) (pr := [(13, .bool false), (19, .bool false), (27, .bool false), (44, .bool false)]) ?_
    refine (nfPReadC6 l (A : Int) 40 (40 + word (ipQ l) 4) (byt (ipQ l) 6) (word (rdG l) 0) (word (rdG l) 2) (segF (byt (ipQ l) 6) (rdG l)) 0 (byt (ipQ l) 8) (byt (ipQ l) 9) (byt (ipQ l) 10) (byt (ipQ l) 11) (byt (ipQ l) 12) (byt (ipQ l) 13) (byt (ipQ l) 14) (byt (ipQ l) 15) (byt (ipQ l) 16) (byt (ipQ l) 17) (byt (ipQ l) 18) (byt (ipQ l) 19) (byt (ipQ l) 20) (byt (ipQ l) 21) (byt (ipQ l) 22) (byt (ipQ l) 23) (byt (ipQ l) 24) (byt (ipQ l) 25) (byt (ipQ l) 26) (byt (ipQ l) 27) (byt (ipQ l) 28) (byt (ipQ l) 29) (byt (ipQ l) 30) (byt (ipQ l) 31) (byt (ipQ l) 32) (byt (ipQ l) 33) (byt (ipQ l) 34) (byt (ipQ l) 35) (byt (ipQ l) 36) (byt (ipQ l) 37) (byt (ipQ l) 38) (byt (ipQ l) 39) _).trans ?_
    refine (if_pos (cdec_true.2 (sayNet (bOk_row rfl rfl rfl) hl2 e0))).trans ?_
    refine (if_pos (decide_eq_false (by omega))).trans ?_
    refine (if_pos (cdec_true.2 (sayNet (bOk_row rfl rfl rfl) hl2 e0))).trans ?_
    refine (if_pos (by first | exact True.intro | rfl | omega | (simp; done) | (simp; omega) | (simp [capOf]; done) | (simp [capOf]; omega))).trans ?_
    refine (if_pos (cdec_true.2 (say6 (l := ipQ l) (bOk_cut rfl rfl (by omega) (ipQ_eq hA)) (by simp <;> omega) (r6_Y hr).1))).trans ?_
    refine (if_pos (AV.beq_self _)).trans ?_
    refine (if_pos (by simp only [intV, wE, wS, capOf_f]; omega)).trans ?_
    refine (if_pos (by simp only [intV, wE, wS, capOf_f]; omega)).trans ?_
    refine (if_pos (cdec_true.2 (saySegR (l := rdG l) (bOk_cut rfl rfl (by simp only [intV, wE, wS]; omega) (by simp only [intV, wE, wS]; exact hG)) (by simp only [nOf_sl, intV, wE, wS]; omega) (segRead_Y hs).1))).trans ?_
    refine (if_pos (AV.beq_self _)).trans ?_
    refine (if_pos (AV.beq_self _)).trans ?_
    refine (if_pos (AV.beq_self _)).trans ?_
    simp only [intV, wE, wS]
    rfl

theorem sPRead : SoundE Try.prog 18 (entF eFrR) := by
  refine canonV_sound fun args h v h' hg => ?_
  unfold eFrR at hg
  split at hg
  · rename_i b
    simp only [Option.some.injEq, Prod.mk.injEq, Bool.and_eq_true, decide_eq_true_eq] at hg
    obtain ⟨⟨hb, hn⟩, rfl, rfl⟩ := hg
    rw [← bOk_len hb] at hn
    refine ⟨rfl, ?_, [slB 0 (bOf h b)], [farB (bOf h b)], .cons _ _ _ _ _ _ _ (bOk_canon hb 0) (.nil _), walkPRead _ hn⟩
    unfold vRead viewL
    split
    · unfold rdSrc rdDst; split <;> rfl
    · rfl
  · simp at hg

end Go.Proofs.Ytnchnjkakddhlaa.L
