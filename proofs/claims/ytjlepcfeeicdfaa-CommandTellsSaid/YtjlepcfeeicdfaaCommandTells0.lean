/- CommandTells' run. -/
import Derived.Test.YtjlepcfeeicdfaaCommandTellsN
import Derived.Test.YtjlepcfeeicdfaaCmL
set_option autoImplicit false
set_option maxRecDepth 100000
set_option linter.unusedVariables false
set_option linter.unusedSimpArgs false
namespace Go.Proofs.Ytjlepcfeeicdfaa.L
open Go Go.Abs

theorem dc_some (l : List UInt8) : ∃ k pr d P e, dcH l k pr d P e := by
  by_cases h : ∃ k pr d P, GoodC l k pr d P
  · obtain ⟨k, pr, d, P, h⟩ := h
    exact ⟨k, pr, d, P, 0, .inl ⟨h, rfl⟩⟩
  · exact ⟨0, 0, dZ, [], 2, .inr ⟨fun k pr d P g => h ⟨k, pr, d, P, g⟩, rfl, rfl, rfl, rfl, rfl⟩⟩
theorem dcH_e {l : List UInt8} {k pr : Int} {d : DipC} {P : PL} {e : Int} (h : dcH l k pr d P e) (hl : l.length ≤ 1000) : P.length ≤ 1000000 := by
  rcases h with ⟨h, _⟩ | ⟨_, _, _, _, rfl, _⟩
  · have := h.1.1.2.2.1; omega
  · simp
theorem dpC_F (l : List UInt8) : ∃ w z po, dpC l = adF w z ++ [.int .u16 po] := by
  unfold dpC
  split
  · exact ⟨_, _, _, by rw [frA_F]⟩
  · exact ⟨false, fun _ => 0, 0, rfl⟩
theorem runCT {l : List UInt8} {P : PL} {k pr : Int} {w : Bool} {x : Nat → Int} {po : Int} {w2 : Bool} {y : Nat → Int} {po2 : Int} (hd : okD (dF w x po)) (ho : okP P) (hr : 0 ≤ pr ∧ pr < 256) (hd2 : okD (dF w2 y po2)) :
    ∃ h', Runs Try.prog 3 [slB 0 l, .agg (cmA k pr w x po (.sl (some (1, 0)) P.length 0 false)), .agg (adF w2 y ++ [.int .u16 po2])] [farB l, .cells (itP P) 19 .far none] (.bool true) h' := by
  by_cases h0 : l.length ≤ 800 ∧ P.length ≤ 300
  case neg =>
    refine Runs.valT0 (tCTOk _ _ _ _ _ _ _ _ _ _ _ _ _ _) (F := 100) (n := 4) (pr := [(30, .bool true)]) ((nfCTl l (itP P) P.length k pr w x po w2 y po2 _).trans ?_)
    by_cases h1 : l.length ≤ 800
    · refine (if_neg (dn (p := (l.length : Int) > 800) (by omega))).trans ?_
      exact if_pos (decide_eq_true (show (P.length : Int) > 300 by omega))
    · exact if_pos (decide_eq_true (show (l.length : Int) > 800 by omega))
  obtain ⟨hl, hP⟩ := h0
  obtain ⟨k1, pr1, d1, Q, e, hG⟩ := dc_some l
  have hQ := dcH_e hG (by omega)
  obtain ⟨w1, u, po1, rfl⟩ := dF_of d1
  obtain ⟨w3, z, po3, hz⟩ := dpC_F l
  have hw2 : adrWf (adF w2 y) = true := hd2.1
  have hp2 : 0 ≤ po2 ∧ po2 < 65536 := hd2.2
  have he : ((e == 0) == decide (e = 0)) = true := by
    by_cases h : e = 0
    · subst h; rfl
    · rw [decide_eq_false h, beq_eq_false_iff_ne.2 h]; rfl
  have he3 : ((dpE l == 0) == decide (dpOk l)) = true := by
    unfold dpE
    by_cases h : dpOk l
    · rw [if_pos h, decide_eq_true h]; rfl
    · rw [if_neg h, decide_eq_false h]; rfl
  have vl : ∀ {h : AHeap} {b : Bool}, adrValid (adF w2 y) = b → Says eValR [.agg (adF w2 y)] h (.bool b) [] := fun {h b} hb => ⟨by
    show some (cdec (IsAdr (adF w2 y)), AV.bool (opq (adrValid (adF w2 y))), h) = _
    rw [opq_eq, hb, cdec_true.2 (isAdr_F w2 y)]; simp⟩

  by_cases hm : mayM k (dF w x po) P
  · have hE : encE k (dF w x po) P = 0 := if_pos hm
    have hM : decide (mayM k (dF w x po) P) = true := decide_eq_true hm
    generalize hZ1' : encL k pr (dF w x po) P = Z
    have hZ : encZ k pr (dF w x po) P = Z := (if_pos hm).trans hZ1'
    have hZ1 : encRZ k pr (dF w x po) P = Z := (if_pos hm).trans hZ1'
    by_cases hv : adrValid (adF w2 y) = true
    · generalize hY' : plcL (adF w2 y) po2 = Y
      have hY : dbL (adF w2 y) po2 = Y := (if_pos hv).trans hY'
      have hYe : dbE (adF w2 y) = 0 := if_pos hv
      refine Runs.valT0 (tCTOk _ _ _ _ _ _ _ _ _ _ _ _ _ _) (F := 100) (n := 4) (pr := [(30, .bool false), (79, .bool true), (86, .bool true), (97, .bool true), (103, .bool true), (120, .bool true)]) ((nfCTTT l (itP P) P.length k pr w x po w2 y po2 k1 pr1 w1 u po1 (itP Q) Q.length e (decide (e = 0)) Z Z w3 z po3 (dpE l) (decide (dpOk l)) Y _).trans ?_)
      refine (if_neg (dn (p := (l.length : Int) > 800) (by omega))).trans ?_
      refine (if_pos (by simp; omega)).trans ?_
      refine (if_pos (cdec_true.2 (.mk l _ _ (bOk_row rfl rfl rfl) (by omega) k1 pr1 (dF w1 u po1) Q e hG 4 rfl))).trans ?_
      refine (if_pos (cdec_true.2 (.mk l _ _ (bOk_row rfl rfl rfl) (by omega) k1 pr1 (dF w1 u po1) Q e hG _ rfl 6 rfl))).trans ?_
      refine (if_pos (cdec_true.2 (.mk P k pr (dF w x po) _ _ (rowP_blk rfl rfl) (by omega) hd ho hr _ hZ _ hE 8 rfl))).trans ?_
      refine (if_pos (cdec_true.2 (.mk P k pr (dF w x po) _ _ (rowP_blk rfl rfl) (by omega) hd ho hr _ hZ1 _ hM 9 rfl))).trans ?_
      refine (if_pos (cdec_true.2 (sayDp (l := l) (bOk_row rfl rfl rfl) (by show l.length ≤ _; omega) (by rw [hz])))).trans ?_
      refine (if_pos (cdec_true.2 (sayRdp (l := l) (bOk_row rfl rfl rfl) (by show l.length ≤ _; omega) hz rfl))).trans ?_
      refine (if_pos (cdec_true.2 (.mk (adF w2 y) po2 _ _ _ 12 hw2 hp2 hY hYe rfl))).trans ?_
      refine (if_pos (cdec_true.2 (vl hv))).trans ?_
      refine (if_pos (cdec_true.2 (.mk Q Q k1 pr1 k1 pr1 (dF w1 u po1) (dF w1 u po1) _ _ _ (rowP_blk rfl rfl) (rowP_blk rfl rfl) hQ true (decide_eq_true ⟨rfl, rfl, rfl, rfl⟩)))).trans ?_
      refine (if_pos he).trans ?_
      refine (if_pos strEq.1).trans ?_
      refine (if_pos strEq.2).trans ?_
      refine (if_pos strEq.1).trans ?_
      refine (if_pos strEq.2).trans ?_
      refine (if_pos (decide_eq_true rfl)).trans ?_
      refine (if_pos (by simp only [beq_self_eq_true, Bool.and_self])).trans ?_
      refine (if_pos he3).trans ?_
      refine (if_pos strEq.1).trans ?_
      refine (if_pos strEq.2).trans ?_
      refine (if_pos (cdec_true.2 (.mk (adF w2 y) po2 Y _ 13 hw2 hp2 hY' rfl))).trans ?_
      refine (if_pos strEq.1).trans ?_
      refine (if_pos strEq.2).trans ?_
      refine (if_pos (decide_eq_true rfl)).trans ?_
      refine (if_pos strEq.1).trans ?_
      refine (if_pos strEq.2).trans ?_
      exact if_pos (AV.beq_self _)
    · have hv : adrValid (adF w2 y) = false := by simpa using hv
      have hY : dbL (adF w2 y) po2 = [] := if_neg (by rw [hv]; decide)
      have hYe : dbE (adF w2 y) = 2 := if_neg (by rw [hv]; decide)
      have Y : List UInt8 := []
      refine Runs.valT0 (tCTOk _ _ _ _ _ _ _ _ _ _ _ _ _ _) (F := 100) (n := 4) (pr := [(30, .bool false), (79, .bool true), (86, .bool true), (97, .bool true), (103, .bool true), (120, .bool true)]) ((nfCTTF l (itP P) P.length k pr w x po w2 y po2 k1 pr1 w1 u po1 (itP Q) Q.length e (decide (e = 0)) Z Z w3 z po3 (dpE l) (decide (dpOk l)) Y _).trans ?_)
      refine (if_neg (dn (p := (l.length : Int) > 800) (by omega))).trans ?_
      refine (if_pos (by simp; omega)).trans ?_
      refine (if_pos (cdec_true.2 (.mk l _ _ (bOk_row rfl rfl rfl) (by omega) k1 pr1 (dF w1 u po1) Q e hG 4 rfl))).trans ?_
      refine (if_pos (cdec_true.2 (.mk l _ _ (bOk_row rfl rfl rfl) (by omega) k1 pr1 (dF w1 u po1) Q e hG _ rfl 6 rfl))).trans ?_
      refine (if_pos (cdec_true.2 (.mk P k pr (dF w x po) _ _ (rowP_blk rfl rfl) (by omega) hd ho hr _ hZ _ hE 8 rfl))).trans ?_
      refine (if_pos (cdec_true.2 (.mk P k pr (dF w x po) _ _ (rowP_blk rfl rfl) (by omega) hd ho hr _ hZ1 _ hM 9 rfl))).trans ?_
      refine (if_pos (cdec_true.2 (sayDp (l := l) (bOk_row rfl rfl rfl) (by show l.length ≤ _; omega) (by rw [hz])))).trans ?_
      refine (if_pos (cdec_true.2 (sayRdp (l := l) (bOk_row rfl rfl rfl) (by show l.length ≤ _; omega) hz rfl))).trans ?_
      refine (if_pos (cdec_true.2 (.mk (adF w2 y) po2 _ _ _ 12 hw2 hp2 hY hYe rfl))).trans ?_
      refine (if_pos (cdec_true.2 (vl hv))).trans ?_
      refine (if_pos (cdec_true.2 (.mk Q Q k1 pr1 k1 pr1 (dF w1 u po1) (dF w1 u po1) _ _ _ (rowP_blk rfl rfl) (rowP_blk rfl rfl) hQ true (decide_eq_true ⟨rfl, rfl, rfl, rfl⟩)))).trans ?_
      refine (if_pos he).trans ?_
      refine (if_pos strEq.1).trans ?_
      refine (if_pos strEq.2).trans ?_
      refine (if_pos strEq.1).trans ?_
      refine (if_pos strEq.2).trans ?_
      refine (if_pos (decide_eq_true rfl)).trans ?_
      refine (if_pos (by simp only [beq_self_eq_true, Bool.and_self])).trans ?_
      exact if_pos he3

  · have hE : encE k (dF w x po) P = 2 := if_neg hm
    have hM : decide (mayM k (dF w x po) P) = false := decide_eq_false hm
    have hZ : encZ k pr (dF w x po) P = [] := if_neg hm
    generalize hZ1 : encRZ k pr (dF w x po) P = Z1
    by_cases hv : adrValid (adF w2 y) = true
    · generalize hY' : plcL (adF w2 y) po2 = Y
      have hY : dbL (adF w2 y) po2 = Y := (if_pos hv).trans hY'
      have hYe : dbE (adF w2 y) = 0 := if_pos hv
      refine Runs.valT0 (tCTOk _ _ _ _ _ _ _ _ _ _ _ _ _ _) (F := 100) (n := 4) (pr := [(30, .bool false), (79, .bool true), (86, .bool true), (97, .bool true), (103, .bool true), (120, .bool true)]) ((nfCTFT l (itP P) P.length k pr w x po w2 y po2 k1 pr1 w1 u po1 (itP Q) Q.length e (decide (e = 0)) [] Z1 w3 z po3 (dpE l) (decide (dpOk l)) Y _).trans ?_)
      refine (if_neg (dn (p := (l.length : Int) > 800) (by omega))).trans ?_
      refine (if_pos (by simp; omega)).trans ?_
      refine (if_pos (cdec_true.2 (.mk l _ _ (bOk_row rfl rfl rfl) (by omega) k1 pr1 (dF w1 u po1) Q e hG 4 rfl))).trans ?_
      refine (if_pos (cdec_true.2 (.mk l _ _ (bOk_row rfl rfl rfl) (by omega) k1 pr1 (dF w1 u po1) Q e hG _ rfl 6 rfl))).trans ?_
      refine (if_pos (cdec_true.2 (.mk P k pr (dF w x po) _ _ (rowP_blk rfl rfl) (by omega) hd ho hr _ hZ _ hE 8 rfl))).trans ?_
      refine (if_pos (cdec_true.2 (.mk P k pr (dF w x po) _ _ (rowP_blk rfl rfl) (by omega) hd ho hr _ hZ1 _ hM 9 rfl))).trans ?_
      refine (if_pos (cdec_true.2 (sayDp (l := l) (bOk_row rfl rfl rfl) (by show l.length ≤ _; omega) (by rw [hz])))).trans ?_
      refine (if_pos (cdec_true.2 (sayRdp (l := l) (bOk_row rfl rfl rfl) (by show l.length ≤ _; omega) hz rfl))).trans ?_
      refine (if_pos (cdec_true.2 (.mk (adF w2 y) po2 _ _ _ 12 hw2 hp2 hY hYe rfl))).trans ?_
      refine (if_pos (cdec_true.2 (vl hv))).trans ?_
      refine (if_pos (cdec_true.2 (.mk Q Q k1 pr1 k1 pr1 (dF w1 u po1) (dF w1 u po1) _ _ _ (rowP_blk rfl rfl) (rowP_blk rfl rfl) hQ true (decide_eq_true ⟨rfl, rfl, rfl, rfl⟩)))).trans ?_
      refine (if_pos he).trans ?_
      refine (if_pos (by simp only [beq_self_eq_true, Bool.and_self])).trans ?_
      refine (if_pos he3).trans ?_
      refine (if_pos strEq.1).trans ?_
      refine (if_pos strEq.2).trans ?_
      refine (if_pos (cdec_true.2 (.mk (adF w2 y) po2 Y _ 13 hw2 hp2 hY' rfl))).trans ?_
      refine (if_pos strEq.1).trans ?_
      refine (if_pos strEq.2).trans ?_
      refine (if_pos (decide_eq_true rfl)).trans ?_
      refine (if_pos strEq.1).trans ?_
      refine (if_pos strEq.2).trans ?_
      exact if_pos (AV.beq_self _)
    · have hv : adrValid (adF w2 y) = false := by simpa using hv
      have hY : dbL (adF w2 y) po2 = [] := if_neg (by rw [hv]; decide)
      have hYe : dbE (adF w2 y) = 2 := if_neg (by rw [hv]; decide)
      have Y : List UInt8 := []
      refine Runs.valT0 (tCTOk _ _ _ _ _ _ _ _ _ _ _ _ _ _) (F := 100) (n := 4) (pr := [(30, .bool false), (79, .bool true), (86, .bool true), (97, .bool true), (103, .bool true), (120, .bool true)]) ((nfCTFF l (itP P) P.length k pr w x po w2 y po2 k1 pr1 w1 u po1 (itP Q) Q.length e (decide (e = 0)) [] Z1 w3 z po3 (dpE l) (decide (dpOk l)) Y _).trans ?_)
      refine (if_neg (dn (p := (l.length : Int) > 800) (by omega))).trans ?_
      refine (if_pos (by simp; omega)).trans ?_
      refine (if_pos (cdec_true.2 (.mk l _ _ (bOk_row rfl rfl rfl) (by omega) k1 pr1 (dF w1 u po1) Q e hG 4 rfl))).trans ?_
      refine (if_pos (cdec_true.2 (.mk l _ _ (bOk_row rfl rfl rfl) (by omega) k1 pr1 (dF w1 u po1) Q e hG _ rfl 6 rfl))).trans ?_
      refine (if_pos (cdec_true.2 (.mk P k pr (dF w x po) _ _ (rowP_blk rfl rfl) (by omega) hd ho hr _ hZ _ hE 8 rfl))).trans ?_
      refine (if_pos (cdec_true.2 (.mk P k pr (dF w x po) _ _ (rowP_blk rfl rfl) (by omega) hd ho hr _ hZ1 _ hM 9 rfl))).trans ?_
      refine (if_pos (cdec_true.2 (sayDp (l := l) (bOk_row rfl rfl rfl) (by show l.length ≤ _; omega) (by rw [hz])))).trans ?_
      refine (if_pos (cdec_true.2 (sayRdp (l := l) (bOk_row rfl rfl rfl) (by show l.length ≤ _; omega) hz rfl))).trans ?_
      refine (if_pos (cdec_true.2 (.mk (adF w2 y) po2 _ _ _ 12 hw2 hp2 hY hYe rfl))).trans ?_
      refine (if_pos (cdec_true.2 (vl hv))).trans ?_
      refine (if_pos (cdec_true.2 (.mk Q Q k1 pr1 k1 pr1 (dF w1 u po1) (dF w1 u po1) _ _ _ (rowP_blk rfl rfl) (rowP_blk rfl rfl) hQ true (decide_eq_true ⟨rfl, rfl, rfl, rfl⟩)))).trans ?_
      refine (if_pos he).trans ?_
      refine (if_pos (by simp only [beq_self_eq_true, Bool.and_self])).trans ?_
      exact if_pos he3
theorem runCommandTells (l : List UInt8) (cl : List AV) (rows : List (List AV)) (xs : List AV) (_ : l.length ≤ maxLen) (hc : FitsK (.int .i64 :: .int .u8 :: ((.bool :: List.replicate 16 (.int .u8)) ++ [.int .u16])) cl) (hr : ∀ r ∈ rows, FitsK ((.bool :: List.replicate 16 (.int .u8)) ++ [.int .u16, .int .i64]) r) (_ : rows.length ≤ maxLen) (hx : FitsK ((.bool :: List.replicate 16 (.int .u8)) ++ [.int .u16]) xs) :
    ∃ h', Runs Try.prog 3 [slB 0 l, .agg (cl ++ [.sl (some (1, 0)) rows.length 0 false]), .agg xs] [farB l, .cells rows.flatten 19 .far none] (.bool true) h' := by
  obtain ⟨k, pr, d, rfl, hd, hp⟩ := cmd_ok hc
  obtain ⟨P, h1, h2, h3⟩ := rows_okP hr
  obtain ⟨d2, rfl, hd2⟩ := dip_ok hx
  obtain ⟨w, x, po, rfl⟩ := dF_of d
  obtain ⟨w2, y, po2, rfl⟩ := dF_of d2
  rw [h1, ← h2]
  exact runCT hd h3 hp hd2

end Go.Proofs.Ytjlepcfeeicdfaa.L
