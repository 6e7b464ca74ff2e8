/- CommandBack's run. -/
import Derived.Test.YtjlepcfeeicdfaaCommandBackN
import Derived.Test.YtjlepcfeeicdfaaCmL
set_option autoImplicit false
set_option maxRecDepth 100000
set_option linter.unusedVariables false
set_option linter.unusedSimpArgs false
namespace Go.Proofs.Ytjlepcfeeicdfaa.L
open Go Go.Abs

theorem memB_prefix : ∀ {P Q : PL} {r : List UInt8}, memOk P → memOk Q → P.length = Q.length → memB P ++ r = memB Q → r = []
  | [], [], r, _, _, _, h => by simpa [memB] using h
  | [], _ :: _, _, _, _, hl, _ => by simp at hl
  | _ :: _, [], _, _, _, hl, _ => by simp at hl
  | m :: P, q :: Q, r, hP, hQ, hl, h => by
    have hm := hP m List.mem_cons_self
    have hq := hQ q List.mem_cons_self
    have e1 : memB (m :: P) ++ r = plcD m.1 ++ ([u8i m.2] ++ (memB P ++ r)) := by simp [memB]
    have e2 : memB (q :: Q) = plcD q.1 ++ ([u8i q.2] ++ memB Q) := by simp [memB]
    rw [e1, e2] at h
    have a := (plc_dOf hm.1 hm.2.1 ([u8i m.2] ++ (memB P ++ r))).2.2
    have b := (plc_dOf hq.1 hq.2.1 ([u8i q.2] ++ memB Q)).2.2
    rw [h, b] at a
    rw [a] at h
    have h2 := List.append_cancel_left h
    have h3 := List.cons.inj h2
    exact memB_prefix (fun x hx => hP x (List.mem_cons_of_mem _ hx)) (fun x hx => hQ x (List.mem_cons_of_mem _ hx)) (by simpa using hl) h3.2
theorem noPrefix {l r : List UInt8} {k pr k1 pr1 : Int} {d d1 : DipC} {P Q : PL} (h : GoodC l k pr d P) (h' : GoodC (l ++ r) k1 pr1 d1 Q) : r = [] := by
  obtain ⟨g1, g2, g3, g4, g5, g6, g7, g8, g9⟩ := goodC_parse h
  obtain ⟨f1, f2, f3, f4, f5, f6, f7, f8, f9⟩ := goodC_parse h'
  have e0 : byt (l ++ r) 0 = byt l 0 := by unfold byt; rw [List.getD_eq_getElem?_getD, List.getD_eq_getElem?_getD, List.getElem?_append_left (by omega)]
  have hd2 : (l ++ r).drop 2 = l.drop 2 ++ r := List.drop_append_of_le_length (by omega)
  have hb : byt (l.drop 2 ++ r) 0 = byt (l.drop 2) 0 := by
    have := g4.1
    unfold byt; rw [List.getD_eq_getElem?_getD, List.getD_eq_getElem?_getD, List.getElem?_append_left (by omega)]
  have hn : frN ((l ++ r).drop 2) = frN (l.drop 2) := by rw [hd2]; unfold frN; rw [hb]
  rw [hn] at f6 f7 f8
  have hk : k1 = k := by rw [← f2, ← g2, e0]
  by_cases k2 : k = 2
  · have a := (g6 k2).1
    have b := (f6 (hk.trans k2)).1
    rw [List.length_append] at b
    exact List.eq_nil_of_length_eq_zero (by omega)
  · obtain ⟨a1, a2⟩ := g7 k2
    obtain ⟨b1, b2⟩ := f7 (by omega)
    have e3 : byt (l ++ r) (2 + frN (l.drop 2)) = byt l (2 + frN (l.drop 2)) := by
      unfold byt; rw [List.getD_eq_getElem?_getD, List.getD_eq_getElem?_getD, List.getElem?_append_left (by omega)]
    rw [e3, a2] at b2
    have e4 : (l ++ r).drop (2 + frN (l.drop 2) + 1) = l.drop (2 + frN (l.drop 2) + 1) ++ r := List.drop_append_of_le_length (by omega)
    rw [e4, g8] at f8
    exact memB_prefix g9 f9 (by omega) f8
theorem encL_le {k pr : Int} {d : DipC} {P : PL} (hd : okD d) (ho : okP P) : 2 ≤ (encL k pr d P).length ∧ (encL k pr d P).length ≤ 22 + P.length * 20 := by
  have h1 := plcD_le hd
  have h2 := memB_le ho
  unfold encL headB
  split <;> simp only [List.length_append, List.length_cons, List.length_nil] <;> omega
theorem runCB {P : PL} {k pr : Int} {w : Bool} {x : Nat → Int} {po cut mo : Int} (hd : okD (dF w x po)) (ho : okP P) (hr : 0 ≤ pr ∧ pr < 256) (hmo : 0 ≤ mo ∧ mo < 256) :
    ∃ h', Runs Try.prog 4 [.agg (cmA k pr w x po (.sl (some (0, 0)) P.length 0 false)), .int .i64 cut, .int .u8 mo] [.cells (itP P) 19 .far none] (.bool true) h' := by
  by_cases h0 : P.length ≤ 100
  case neg =>
    exact Runs.valT0 (tCBOk _ _ _ _ _) (F := 100) (n := 4) (pr := [(21, .bool true)]) ((nfCBl (itP P) P.length k pr w x po cut mo _).trans (if_pos (decide_eq_true (show (P.length : Int) > 100 by omega))))
  by_cases hm : mayM k (dF w x po) P
  case neg =>
    refine Runs.valT0 (tCBOk _ _ _ _ _) (F := 100) (n := 4) (pr := [(21, .bool false)]) ((nfCBe (itP P) P.length k pr w x po cut mo _).trans ?_)
    refine (if_pos (by simp; omega)).trans ?_
    exact if_pos (cdec_true.2 (.mk P k pr (dF w x po) _ _ (rowP_blk rfl rfl) (by omega) hd ho hr _ (if_neg hm) _ (if_neg hm) 2 rfl))
  have hG : GoodC (encL k pr (dF w x po) P) k pr (dF w x po) P := ⟨hm, hd, ho, hr, rfl⟩
  obtain ⟨hl2, hle⟩ := encL_le (k := k) (pr := pr) hd ho
  generalize hZ : encL k pr (dF w x po) P = l at *
  have e1 : encZ k pr (dF w x po) P = l := (if_pos hm).trans hZ
  have e2 : encE k (dF w x po) P = 0 := if_pos hm
  obtain ⟨kk, hk⟩ : ∃ kk : Nat, cut % (l.length : Int) = kk := ⟨(cut % (l.length : Int)).toNat, by have := Int.emod_nonneg cut (show (l.length : Int) ≠ 0 by omega); omega⟩
  have hkl : kk < l.length := by have := Int.emod_lt_of_pos cut (show 0 < (l.length : Int) by omega); omega
  have say : ∀ {h : AHeap}, Says eRound [.int .i64 cut, .int .i64 (l.length : Int)] h (.int .i64 (kk : Int)) [] := fun {h} => ⟨by
    show some (decide (0 < (l.length : Int) ∧ (l.length : Int) < 4611686018427387904), AV.int .i64 (cut % (l.length : Int)), h) = _
    rw [hk, decide_eq_true ⟨by omega, by omega⟩, List.append_nil]⟩
  have n1 : dcH (l.take kk) 0 0 dZ [] 2 := .inr ⟨(fun k1 pr1 d1 Q h => by
    have := noPrefix (r := l.drop kk) h (by rw [List.take_append_drop]; exact hG)
    have := congrArg List.length this
    rw [List.length_drop] at this
    simp at this; omega), rfl, rfl, rfl, rfl, rfl⟩
  have n2 : dcH (l ++ [u8i mo]) 0 0 dZ [] 2 := .inr ⟨(fun k1 pr1 d1 Q h => by
    have := noPrefix (r := [u8i mo]) hG h
    cases this), rfl, rfl, rfl, rfl, rfl⟩
  refine Runs.valT0 (tCBOk _ _ _ _ _) (F := 100) (n := 4) (pr := [(21, .bool false), (38, .bool false), (86, .bool true)]) ((nfCBm (itP P) P.length k pr w x po cut mo l kk _).trans ?_)
  refine (if_pos (by simp; omega)).trans ?_
  refine (if_pos (cdec_true.2 (.mk P k pr (dF w x po) _ _ (rowP_blk rfl rfl) (by omega) hd ho hr _ e1 _ e2 2 rfl))).trans ?_
  refine (if_pos (beq_eq_false_iff_ne.2 (show (l.length : Int) ≠ 0 by omega))).trans ?_
  refine (if_pos (cdec_true.2 (.mk l _ _ (bOk_row rfl rfl rfl) (by omega) k pr (dF w x po) P 0 (.inl ⟨hG, rfl⟩) 3 rfl))).trans ?_
  refine (if_pos (cdec_true.2 (.mk P k pr (dF w x po) _ _ (rowP_blk rfl rfl) (by omega) hd ho hr _ e1 _ e2 5 rfl))).trans ?_
  refine (if_pos (cdec_true.2 say)).trans ?_
  refine (if_pos ⟨by omega, by simp [capOf]; omega⟩).trans ?_
  refine (if_pos (cdec_true.2 (.mk (l.take kk) _ _ (bOk_cut1 (o := 0) (l := l) rfl rfl (by omega) (by rw [List.drop_zero]; rfl)) (by simp; omega) 0 0 dZ [] 2 n1 6 rfl))).trans ?_
  refine (if_pos (by simp)).trans ?_
  refine (if_pos ⟨by omega, rfl, by omega⟩).trans ?_
  refine (if_pos ⟨rfl, rfl, by simp, rfl, by simp⟩).trans ?_
  refine (if_pos ⟨by omega, rfl, by omega⟩).trans ?_
  refine (if_pos (by simp)).trans ?_
  refine (if_pos ⟨rfl, by simp, by simp, rfl, rfl⟩).trans ?_
  have hv : List.take ((0 + l.length) * 1) (List.take (l.length * 1) (bys l)) ++ [AV.int .u8 mo] = bys (l ++ [u8i mo]) := by
    have : ((u8i mo).toNat : Int) = mo := by rw [u8i_toNat]; omega
    rw [List.take_of_length_le (by simp), List.take_of_length_le (by simp)]
    simp [bys, this]
  refine (if_pos (cdec_true.2 (.mk (l ++ [u8i mo]) _ _ (bOk_row rfl hv (by simp)) (by simp; omega) 0 0 dZ [] 2 n2 12 rfl))).trans ?_
  refine (if_pos (cdec_true.2 (.mk P P k pr k pr (dF w x po) (dF w x po) _ _ _ (rowP_blk rfl rfl) (rowP_blk rfl rfl) (by omega) true (decide_eq_true ⟨rfl, rfl, rfl, rfl⟩)))).trans ?_
  refine (if_pos strEq.1).trans ?_
  refine (if_pos strEq.2).trans ?_
  refine (if_pos strEq.1).trans ?_
  refine (if_pos strEq.2).trans ?_
  exact if_pos (decide_eq_true rfl)
theorem runCommandBack (cl : List AV) (rows : List (List AV)) (cut mo : Int) (hc : FitsK (.int .i64 :: .int .u8 :: ((.bool :: List.replicate 16 (.int .u8)) ++ [.int .u16])) cl) (hr : ∀ r ∈ rows, FitsK ((.bool :: List.replicate 16 (.int .u8)) ++ [.int .u16, .int .i64]) r) (_ : rows.length ≤ maxLen) (_ : -9223372036854775808 ≤ cut ∧ cut < 9223372036854775808) (hmo : 0 ≤ mo ∧ mo < 256) :
    ∃ h', Runs Try.prog 4 [.agg (cl ++ [.sl (some (0, 0)) rows.length 0 false]), .int .i64 cut, .int .u8 mo] [.cells rows.flatten 19 .far none] (.bool true) h' := by
  obtain ⟨k, pr, d, rfl, hd, hp⟩ := cmd_ok hc
  obtain ⟨P, h1, h2, h3⟩ := rows_okP hr
  obtain ⟨w, x, po, rfl⟩ := dF_of d
  rw [h1, ← h2]
  exact runCB hd h3 hp hmo

end Go.Proofs.Ytjlepcfeeicdfaa.L
