/- CommandOdd's run. -/
import Derived.Test.YtjlepcfeeicdfaaCommandOddN
set_option autoImplicit false
set_option maxRecDepth 100000
set_option linter.unusedVariables false
set_option linter.unusedSimpArgs false
namespace Go.Proofs.Ytjlepcfeeicdfaa.L
open Go Go.Abs

theorem dc_some (l : List UInt8) : (∃ k pr d P, GoodC l k pr d P) ∨ dcH l 0 0 dZ [] 2 := by
  by_cases h : ∃ k pr d P, GoodC l k pr d P
  · exact .inl h
  · exact .inr (.inr ⟨fun k pr d P g => h ⟨k, pr, d, P, g⟩, rfl, rfl, rfl, rfl, rfl⟩)
theorem encL_bd {k pr : Int} {d : DipC} {P : PL} (hd : okD d) (ho : okP P) : 9 ≤ (encL k pr d P).length ∧ (encL k pr d P).length ≤ 22 + P.length * 20 := by
  have h1 := plcD_le hd
  have h2 := memB_le ho
  have h3 : 7 ≤ (plcD d).length := by rw [plcD_len hd]; split <;> omega
  unfold encL headB
  split <;> simp only [List.length_append, List.length_cons, List.length_nil] <;> omega
theorem oneP (w : Bool) (n v : Int) : okP [(dpD w n, v)] := fun m hm => by
  rw [List.mem_singleton] at hm; subst hm; exact dpD_ok w n
theorem mayOne {k v : Int} {w : Bool} {n : Int} {d : DipC} (hd : vD d = true) (hk : 3 ≤ k ∧ k ≤ 5) (hv : 0 ≤ v ∧ v ≤ 255) (h4 : k = 4 → v = 0) : mayM k d [(dpD w n, v)] := by
  refine ⟨⟨by omega, by omega, by simp, fun h => by omega, fun _ => rfl, hd⟩, ?_⟩
  have hv' : adrValid ((dpD w n).cells.take 17) = true := dpD_v w n
  rw [List.any_eq_false]
  intro m hm
  rw [List.mem_singleton] at hm; subst hm
  unfold badM; rw [hv']; simp; omega
theorem may1 {w : Bool} {n : Nat} {d : DipC} (hd : vD d = true) (hn : n ≤ 20) : mayM 1 d (mkP w 1 n) := by
  refine ⟨⟨by omega, by omega, by rw [mkP_len]; omega, fun h => by omega, fun h => by omega, hd⟩, ?_⟩
  rw [List.any_eq_false]
  intro m hm
  unfold mkP at hm
  obtain ⟨i, hi, rfl⟩ := List.mem_map.1 hm
  have hv : adrValid ((dpD w i).cells.take 17) = true := dpD_v w i
  unfold badM; rw [hv]; simp
theorem sayR {k n r : Int} {h : AHeap} (hn : 0 < n ∧ n < 4611686018427387904) (hr : k % n = r) : Says eRound [.int .i64 k, .int .i64 n] h (.int .i64 r) [] := ⟨by
  show some (decide (0 < n ∧ n < 4611686018427387904), AV.int .i64 (k % n), h) = _
  rw [hr, decide_eq_true hn, List.append_nil]⟩
theorem setB {Z : List UInt8} {aa : Nat} {mo : Int} (hmo : 0 ≤ mo ∧ mo < 256) : putCells (List.take (Z.length * 1) (bys Z)) (0 + (aa : Int).toNat * 1) [AV.int .u8 mo] = bys (Z.set aa (u8i mo)) := by
  have e : ((u8i mo).toNat : Int) = mo := by rw [u8i_toNat]; omega
  rw [List.take_of_length_le (by simp), show 0 + (aa : Int).toNat * 1 = aa by omega]
  show (bys Z).set aa (AV.int .u8 mo) = _
  unfold bys
  rw [List.map_set, e]
theorem nilP {h : AHeap} {e : Bool} : rowP h (.sl none 0 0 e) [] := ⟨rfl, rfl⟩
theorem runCommandOdd (kind vip n at_ mo : Int) (_ : -9223372036854775808 ≤ kind ∧ kind < 9223372036854775808) (_ : -9223372036854775808 ≤ vip ∧ vip < 9223372036854775808) (_ : -9223372036854775808 ≤ n ∧ n < 9223372036854775808) (_ : -9223372036854775808 ≤ at_ ∧ at_ < 9223372036854775808) (hmo : 0 ≤ mo ∧ mo < 256) :
    ∃ h', Runs Try.prog 5 [.int .i64 kind, .int .i64 vip, .int .i64 n, .int .i64 at_, .int .u8 mo] [] (.bool true) h' := by
  obtain ⟨hd, hv, hr⟩ := vip_ok (vip % 4)
  have say : ∀ {h : AHeap}, Says eVof [.int .i64 vip] h (.agg (.int .u8 (vpr (vip % 4)) :: (adF (vw (vip % 4)) vx ++ [.int .u16 80]))) [] := fun {h} => ⟨by
    show some (true, AV.agg (vipL (vip % 4)), h) = _
    rw [List.append_nil]; rfl⟩
  generalize vpr (vip % 4) = pr at *
  generalize vw (vip % 4) = w at *
  generalize vx = x at *
  generalize (80 : Int) = po at *
  obtain ⟨nn, hnn⟩ : ∃ nn : Nat, n % 5 = nn := ⟨(n % 5).toNat, by omega⟩
  have hk : kind % 5 = 0 ∨ kind % 5 = 1 ∨ kind % 5 = 2 ∨ kind % 5 = 3 ∨ kind % 5 = 4 := by omega
  rcases hk with hk | hk | hk | hk | hk
  · have hm : mayM 1 (dF w x po) (mkP w 1 nn) := may1 hv (by omega)
    obtain ⟨hl9, hle⟩ := encL_bd (k := 1) (pr := pr) (P := (mkP w 1 nn)) hd (mkP_ok w 1 nn)
    have hPl : ((mkP w 1 nn) : PL).length ≤ 20 := by simp; omega
    generalize hZ : encL 1 pr (dF w x po) (mkP w 1 nn) = Z at hl9 hle
    have e1 : encZ 1 pr (dF w x po) (mkP w 1 nn) = Z := (if_pos hm).trans hZ
    have e2 : encE 1 (dF w x po) (mkP w 1 nn) = 0 := if_pos hm
    clear hZ
    obtain ⟨aa, ha⟩ : ∃ aa : Nat, at_ % (Z.length : Int) = aa := ⟨(at_ % (Z.length : Int)).toNat, by have := Int.emod_nonneg at_ (show (Z.length : Int) ≠ 0 by omega); omega⟩
    have hal : aa < Z.length := by have := Int.emod_lt_of_pos at_ (show 0 < (Z.length : Int) by omega); omega
    have hO := setB (Z := Z) (aa := aa) hmo
    have hOl : (Z.set aa (u8i mo)).length = Z.length := by simp
    generalize Z.set aa (u8i mo) = O at hO hOl
    rcases dc_some O with ⟨k1, pr1, d1, Q, hG⟩ | hG
    · have hQ : Q.length ≤ 1000000 := by have := hG.1.1.2.2.1; omega
      obtain ⟨w1, u, po1, rfl⟩ := dF_of d1
      have f1 : encZ k1 pr1 (dF w1 u po1) Q = O := (if_pos hG.1).trans hG.2.2.2.2
      have f2 : encE k1 (dF w1 u po1) Q = 0 := if_pos hG.1
      refine Runs.valT0 (tCOOk _ _ _ _ _ _ _ _ _ _) (F := 100) (n := 4) (pr := [(67, .bool false), (102, .bool true)]) ((nfCO0g kind vip n at_ mo pr w x po nn aa Z O (itP (mkP w 1 nn)) k1 pr1 w1 u po1 Q.length (itP Q) _).trans ?_)
      refine (if_pos (cdec_true.2 (sayR ⟨by decide, by decide⟩ hk))).trans ?_
      refine (if_pos (cdec_true.2 say)).trans ?_
      refine (if_pos (cdec_true.2 (sayR ⟨by decide, by decide⟩ hnn))).trans ?_
      refine (if_pos ⟨rfl, by decide, by omega, by omega, by omega, by omega⟩).trans ?_
      refine (if_pos (cdec_true.2 (.mk nn w _ _ (rowI_blk (by show some (ABlk.cells (zrep _ _) 1 .own none) = some (ABlk.cells _ 1 _ _); rw [Int.toNat_natCast]; simp only [zrep, List.flatten_replicate_singleton, List.map_replicate]; rfl) (by simp)) (by omega) 2 rfl))).trans ?_
      refine (if_pos (AV.beq_self _)).trans ?_
      refine (if_pos (AV.beq_self _)).trans ?_
      refine (if_pos (cdec_true.2 (.mk (mkP w 1 nn) 1 pr (dF w x po) _ _ (rowP_blk rfl (by simp)) (by simp; omega) hd (mkP_ok w 1 nn) hr Z e1 0 e2 3 rfl))).trans ?_
      refine (if_pos (decide_eq_false (show ¬ (Z.length : Int) < 9 by omega))).trans ?_
      refine (if_pos (by simp)).trans ?_
      refine (if_pos ⟨by omega, rfl, by omega⟩).trans ?_
      refine (if_pos ⟨rfl, rfl, by simp, rfl, by simp⟩).trans ?_
      refine (if_pos (cdec_true.2 (sayR ⟨by omega, by omega⟩ (by rw [show ((0 + Z.length : Nat) : Int) = (Z.length : Int) by omega]; exact ha)))).trans ?_
      refine (if_pos ⟨by omega, by omega⟩).trans ?_
      refine (if_pos ⟨by simp; omega, rfl⟩).trans ?_
      refine (if_pos (cdec_true.2 (.mk O _ _ (bOk_row rfl hO (by omega)) (by omega) k1 pr1 (dF w1 u po1) Q 0 (.inl ⟨hG, rfl⟩) 6 rfl))).trans ?_
      refine (if_pos (cdec_true.2 (.mk Q k1 pr1 (dF w1 u po1) _ _ (rowP_blk rfl rfl) hQ hG.2.1 hG.2.2.1 hG.2.2.2.1 O f1 0 f2 8 rfl))).trans ?_
      refine (if_pos strEq.1).trans ?_
      refine (if_pos strEq.2).trans ?_
      refine (if_pos (by rw [hO]; simp; omega)).trans ?_
      refine (if_pos (by rw [hO, show 0 + Z.length = O.length by omega]; exact strEq.2)).trans ?_
      exact if_pos (decide_eq_true (by rw [hO, show 0 + Z.length = O.length by omega]))
    · refine Runs.valT0 (tCOOk _ _ _ _ _ _ _ _ _ _) (F := 100) (n := 4) (pr := [(67, .bool false)]) ((nfCO0b kind vip n at_ mo pr w x po nn aa Z O (itP (mkP w 1 nn)) 0 0 false (fun _ => 0) 0 0 [] _).trans ?_)
      refine (if_pos (cdec_true.2 (sayR ⟨by decide, by decide⟩ hk))).trans ?_
      refine (if_pos (cdec_true.2 say)).trans ?_
      refine (if_pos (cdec_true.2 (sayR ⟨by decide, by decide⟩ hnn))).trans ?_
      refine (if_pos ⟨rfl, by decide, by omega, by omega, by omega, by omega⟩).trans ?_
      refine (if_pos (cdec_true.2 (.mk nn w _ _ (rowI_blk (by show some (ABlk.cells (zrep _ _) 1 .own none) = some (ABlk.cells _ 1 _ _); rw [Int.toNat_natCast]; simp only [zrep, List.flatten_replicate_singleton, List.map_replicate]; rfl) (by simp)) (by omega) 2 rfl))).trans ?_
      refine (if_pos (AV.beq_self _)).trans ?_
      refine (if_pos (AV.beq_self _)).trans ?_
      refine (if_pos (cdec_true.2 (.mk (mkP w 1 nn) 1 pr (dF w x po) _ _ (rowP_blk rfl (by simp)) (by simp; omega) hd (mkP_ok w 1 nn) hr Z e1 0 e2 3 rfl))).trans ?_
      refine (if_pos (decide_eq_false (show ¬ (Z.length : Int) < 9 by omega))).trans ?_
      refine (if_pos (by simp)).trans ?_
      refine (if_pos ⟨by omega, rfl, by omega⟩).trans ?_
      refine (if_pos ⟨rfl, rfl, by simp, rfl, by simp⟩).trans ?_
      refine (if_pos (cdec_true.2 (sayR ⟨by omega, by omega⟩ (by rw [show ((0 + Z.length : Nat) : Int) = (Z.length : Int) by omega]; exact ha)))).trans ?_
      refine (if_pos ⟨by omega, by omega⟩).trans ?_
      refine (if_pos ⟨by simp; omega, rfl⟩).trans ?_
      exact if_pos (cdec_true.2 (.mk O _ _ (bOk_row rfl hO (by omega)) (by omega) 0 0 dZ [] 2 hG 6 rfl))
  · have hm : mayM 2 (dF w x po) [] := ⟨⟨by omega, by omega, by simp, fun _ => rfl, fun h => by omega, hv⟩, rfl⟩
    obtain ⟨hl9, hle⟩ := encL_bd (k := 2) (pr := pr) (P := []) hd ((fun m hm => by cases hm))
    have hPl : ([] : PL).length ≤ 20 := by simp
    generalize hZ : encL 2 pr (dF w x po) [] = Z at hl9 hle
    have e1 : encZ 2 pr (dF w x po) [] = Z := (if_pos hm).trans hZ
    have e2 : encE 2 (dF w x po) [] = 0 := if_pos hm
    clear hZ
    obtain ⟨aa, ha⟩ : ∃ aa : Nat, at_ % (Z.length : Int) = aa := ⟨(at_ % (Z.length : Int)).toNat, by have := Int.emod_nonneg at_ (show (Z.length : Int) ≠ 0 by omega); omega⟩
    have hal : aa < Z.length := by have := Int.emod_lt_of_pos at_ (show 0 < (Z.length : Int) by omega); omega
    have hO := setB (Z := Z) (aa := aa) hmo
    have hOl : (Z.set aa (u8i mo)).length = Z.length := by simp
    generalize Z.set aa (u8i mo) = O at hO hOl
    rcases dc_some O with ⟨k1, pr1, d1, Q, hG⟩ | hG
    · have hQ : Q.length ≤ 1000000 := by have := hG.1.1.2.2.1; omega
      obtain ⟨w1, u, po1, rfl⟩ := dF_of d1
      have f1 : encZ k1 pr1 (dF w1 u po1) Q = O := (if_pos hG.1).trans hG.2.2.2.2
      have f2 : encE k1 (dF w1 u po1) Q = 0 := if_pos hG.1
      refine Runs.valT0 (tCOOk _ _ _ _ _ _ _ _ _ _) (F := 100) (n := 4) (pr := [(67, .bool false), (102, .bool true)]) ((nfCO1g kind vip n at_ mo pr w x po nn aa Z O [] k1 pr1 w1 u po1 Q.length (itP Q) _).trans ?_)
      refine (if_pos (cdec_true.2 (sayR ⟨by decide, by decide⟩ hk))).trans ?_
      refine (if_pos (cdec_true.2 say)).trans ?_
      refine (if_pos (cdec_true.2 (.mk [] 2 pr (dF w x po) _ _ nilP (by simp) hd (fun m hm => by cases hm) hr Z e1 0 e2 1 rfl))).trans ?_
      refine (if_pos (decide_eq_false (show ¬ (Z.length : Int) < 9 by omega))).trans ?_
      refine (if_pos (by simp)).trans ?_
      refine (if_pos ⟨by omega, rfl, by omega⟩).trans ?_
      refine (if_pos ⟨rfl, rfl, by simp, rfl, by simp⟩).trans ?_
      refine (if_pos (cdec_true.2 (sayR ⟨by omega, by omega⟩ (by rw [show ((0 + Z.length : Nat) : Int) = (Z.length : Int) by omega]; exact ha)))).trans ?_
      refine (if_pos ⟨by omega, by omega⟩).trans ?_
      refine (if_pos ⟨by simp; omega, rfl⟩).trans ?_
      refine (if_pos (cdec_true.2 (.mk O _ _ (bOk_row rfl hO (by omega)) (by omega) k1 pr1 (dF w1 u po1) Q 0 (.inl ⟨hG, rfl⟩) 4 rfl))).trans ?_
      refine (if_pos (cdec_true.2 (.mk Q k1 pr1 (dF w1 u po1) _ _ (rowP_blk rfl rfl) hQ hG.2.1 hG.2.2.1 hG.2.2.2.1 O f1 0 f2 6 rfl))).trans ?_
      refine (if_pos strEq.1).trans ?_
      refine (if_pos strEq.2).trans ?_
      refine (if_pos (by rw [hO]; simp; omega)).trans ?_
      refine (if_pos (by rw [hO, show 0 + Z.length = O.length by omega]; exact strEq.2)).trans ?_
      exact if_pos (decide_eq_true (by rw [hO, show 0 + Z.length = O.length by omega]))
    · refine Runs.valT0 (tCOOk _ _ _ _ _ _ _ _ _ _) (F := 100) (n := 4) (pr := [(67, .bool false)]) ((nfCO1b kind vip n at_ mo pr w x po nn aa Z O [] 0 0 false (fun _ => 0) 0 0 [] _).trans ?_)
      refine (if_pos (cdec_true.2 (sayR ⟨by decide, by decide⟩ hk))).trans ?_
      refine (if_pos (cdec_true.2 say)).trans ?_
      refine (if_pos (cdec_true.2 (.mk [] 2 pr (dF w x po) _ _ nilP (by simp) hd (fun m hm => by cases hm) hr Z e1 0 e2 1 rfl))).trans ?_
      refine (if_pos (decide_eq_false (show ¬ (Z.length : Int) < 9 by omega))).trans ?_
      refine (if_pos (by simp)).trans ?_
      refine (if_pos ⟨by omega, rfl, by omega⟩).trans ?_
      refine (if_pos ⟨rfl, rfl, by simp, rfl, by simp⟩).trans ?_
      refine (if_pos (cdec_true.2 (sayR ⟨by omega, by omega⟩ (by rw [show ((0 + Z.length : Nat) : Int) = (Z.length : Int) by omega]; exact ha)))).trans ?_
      refine (if_pos ⟨by omega, by omega⟩).trans ?_
      refine (if_pos ⟨by simp; omega, rfl⟩).trans ?_
      exact if_pos (cdec_true.2 (.mk O _ _ (bOk_row rfl hO (by omega)) (by omega) 0 0 dZ [] 2 hG 4 rfl))
  · have hm : mayM 3 (dF w x po) [(dpD w n, 3)] := mayOne hv (by omega) (by omega) (fun h => by omega)
    obtain ⟨hl9, hle⟩ := encL_bd (k := 3) (pr := pr) (P := [(dpD w n, 3)]) hd (oneP w n 3)
    have hPl : ([(dpD w n, 3)] : PL).length ≤ 20 := by simp
    generalize hZ : encL 3 pr (dF w x po) [(dpD w n, 3)] = Z at hl9 hle
    have e1 : encZ 3 pr (dF w x po) [(dpD w n, 3)] = Z := (if_pos hm).trans hZ
    have e2 : encE 3 (dF w x po) [(dpD w n, 3)] = 0 := if_pos hm
    clear hZ
    obtain ⟨aa, ha⟩ : ∃ aa : Nat, at_ % (Z.length : Int) = aa := ⟨(at_ % (Z.length : Int)).toNat, by have := Int.emod_nonneg at_ (show (Z.length : Int) ≠ 0 by omega); omega⟩
    have hal : aa < Z.length := by have := Int.emod_lt_of_pos at_ (show 0 < (Z.length : Int) by omega); omega
    have hO := setB (Z := Z) (aa := aa) hmo
    have hOl : (Z.set aa (u8i mo)).length = Z.length := by simp
    generalize Z.set aa (u8i mo) = O at hO hOl
    rcases dc_some O with ⟨k1, pr1, d1, Q, hG⟩ | hG
    · have hQ : Q.length ≤ 1000000 := by have := hG.1.1.2.2.1; omega
      obtain ⟨w1, u, po1, rfl⟩ := dF_of d1
      have f1 : encZ k1 pr1 (dF w1 u po1) Q = O := (if_pos hG.1).trans hG.2.2.2.2
      have f2 : encE k1 (dF w1 u po1) Q = 0 := if_pos hG.1
      refine Runs.valT0 (tCOOk _ _ _ _ _ _ _ _ _ _) (F := 100) (n := 4) (pr := [(67, .bool false), (102, .bool true)]) ((nfCO2g kind vip n at_ mo pr w x po nn aa Z O [] k1 pr1 w1 u po1 Q.length (itP Q) _).trans ?_)
      refine (if_pos (cdec_true.2 (sayR ⟨by decide, by decide⟩ hk))).trans ?_
      refine (if_pos (cdec_true.2 say)).trans ?_
      refine (if_pos (cdec_true.2 (.mk [(dpD w n, 3)] 3 pr (dF w x po) _ _ (rowP_blk rfl rfl) (by simp) hd (oneP w n 3) hr Z e1 0 e2 2 rfl))).trans ?_
      refine (if_pos (decide_eq_false (show ¬ (Z.length : Int) < 9 by omega))).trans ?_
      refine (if_pos (by simp)).trans ?_
      refine (if_pos ⟨by omega, rfl, by omega⟩).trans ?_
      refine (if_pos ⟨rfl, rfl, by simp, rfl, by simp⟩).trans ?_
      refine (if_pos (cdec_true.2 (sayR ⟨by omega, by omega⟩ (by rw [show ((0 + Z.length : Nat) : Int) = (Z.length : Int) by omega]; exact ha)))).trans ?_
      refine (if_pos ⟨by omega, by omega⟩).trans ?_
      refine (if_pos ⟨by simp; omega, rfl⟩).trans ?_
      refine (if_pos (cdec_true.2 (.mk O _ _ (bOk_row rfl hO (by omega)) (by omega) k1 pr1 (dF w1 u po1) Q 0 (.inl ⟨hG, rfl⟩) 5 rfl))).trans ?_
      refine (if_pos (cdec_true.2 (.mk Q k1 pr1 (dF w1 u po1) _ _ (rowP_blk rfl rfl) hQ hG.2.1 hG.2.2.1 hG.2.2.2.1 O f1 0 f2 7 rfl))).trans ?_
      refine (if_pos strEq.1).trans ?_
      refine (if_pos strEq.2).trans ?_
      refine (if_pos (by rw [hO]; simp; omega)).trans ?_
      refine (if_pos (by rw [hO, show 0 + Z.length = O.length by omega]; exact strEq.2)).trans ?_
      exact if_pos (decide_eq_true (by rw [hO, show 0 + Z.length = O.length by omega]))
    · refine Runs.valT0 (tCOOk _ _ _ _ _ _ _ _ _ _) (F := 100) (n := 4) (pr := [(67, .bool false)]) ((nfCO2b kind vip n at_ mo pr w x po nn aa Z O [] 0 0 false (fun _ => 0) 0 0 [] _).trans ?_)
      refine (if_pos (cdec_true.2 (sayR ⟨by decide, by decide⟩ hk))).trans ?_
      refine (if_pos (cdec_true.2 say)).trans ?_
      refine (if_pos (cdec_true.2 (.mk [(dpD w n, 3)] 3 pr (dF w x po) _ _ (rowP_blk rfl rfl) (by simp) hd (oneP w n 3) hr Z e1 0 e2 2 rfl))).trans ?_
      refine (if_pos (decide_eq_false (show ¬ (Z.length : Int) < 9 by omega))).trans ?_
      refine (if_pos (by simp)).trans ?_
      refine (if_pos ⟨by omega, rfl, by omega⟩).trans ?_
      refine (if_pos ⟨rfl, rfl, by simp, rfl, by simp⟩).trans ?_
      refine (if_pos (cdec_true.2 (sayR ⟨by omega, by omega⟩ (by rw [show ((0 + Z.length : Nat) : Int) = (Z.length : Int) by omega]; exact ha)))).trans ?_
      refine (if_pos ⟨by omega, by omega⟩).trans ?_
      refine (if_pos ⟨by simp; omega, rfl⟩).trans ?_
      exact if_pos (cdec_true.2 (.mk O _ _ (bOk_row rfl hO (by omega)) (by omega) 0 0 dZ [] 2 hG 5 rfl))
  · have hm : mayM 4 (dF w x po) [(dpD w n, 0)] := mayOne hv (by omega) (by omega) (fun _ => rfl)
    obtain ⟨hl9, hle⟩ := encL_bd (k := 4) (pr := pr) (P := [(dpD w n, 0)]) hd (oneP w n 0)
    have hPl : ([(dpD w n, 0)] : PL).length ≤ 20 := by simp
    generalize hZ : encL 4 pr (dF w x po) [(dpD w n, 0)] = Z at hl9 hle
    have e1 : encZ 4 pr (dF w x po) [(dpD w n, 0)] = Z := (if_pos hm).trans hZ
    have e2 : encE 4 (dF w x po) [(dpD w n, 0)] = 0 := if_pos hm
    clear hZ
    obtain ⟨aa, ha⟩ : ∃ aa : Nat, at_ % (Z.length : Int) = aa := ⟨(at_ % (Z.length : Int)).toNat, by have := Int.emod_nonneg at_ (show (Z.length : Int) ≠ 0 by omega); omega⟩
    have hal : aa < Z.length := by have := Int.emod_lt_of_pos at_ (show 0 < (Z.length : Int) by omega); omega
    have hO := setB (Z := Z) (aa := aa) hmo
    have hOl : (Z.set aa (u8i mo)).length = Z.length := by simp
    generalize Z.set aa (u8i mo) = O at hO hOl
    rcases dc_some O with ⟨k1, pr1, d1, Q, hG⟩ | hG
    · have hQ : Q.length ≤ 1000000 := by have := hG.1.1.2.2.1; omega
      obtain ⟨w1, u, po1, rfl⟩ := dF_of d1
      have f1 : encZ k1 pr1 (dF w1 u po1) Q = O := (if_pos hG.1).trans hG.2.2.2.2
      have f2 : encE k1 (dF w1 u po1) Q = 0 := if_pos hG.1
      refine Runs.valT0 (tCOOk _ _ _ _ _ _ _ _ _ _) (F := 100) (n := 4) (pr := [(67, .bool false), (102, .bool true)]) ((nfCO3g kind vip n at_ mo pr w x po nn aa Z O [] k1 pr1 w1 u po1 Q.length (itP Q) _).trans ?_)
      refine (if_pos (cdec_true.2 (sayR ⟨by decide, by decide⟩ hk))).trans ?_
      refine (if_pos (cdec_true.2 say)).trans ?_
      refine (if_pos (cdec_true.2 (.mk [(dpD w n, 0)] 4 pr (dF w x po) _ _ (rowP_blk rfl rfl) (by simp) hd (oneP w n 0) hr Z e1 0 e2 2 rfl))).trans ?_
      refine (if_pos (decide_eq_false (show ¬ (Z.length : Int) < 9 by omega))).trans ?_
      refine (if_pos (by simp)).trans ?_
      refine (if_pos ⟨by omega, rfl, by omega⟩).trans ?_
      refine (if_pos ⟨rfl, rfl, by simp, rfl, by simp⟩).trans ?_
      refine (if_pos (cdec_true.2 (sayR ⟨by omega, by omega⟩ (by rw [show ((0 + Z.length : Nat) : Int) = (Z.length : Int) by omega]; exact ha)))).trans ?_
      refine (if_pos ⟨by omega, by omega⟩).trans ?_
      refine (if_pos ⟨by simp; omega, rfl⟩).trans ?_
      refine (if_pos (cdec_true.2 (.mk O _ _ (bOk_row rfl hO (by omega)) (by omega) k1 pr1 (dF w1 u po1) Q 0 (.inl ⟨hG, rfl⟩) 5 rfl))).trans ?_
      refine (if_pos (cdec_true.2 (.mk Q k1 pr1 (dF w1 u po1) _ _ (rowP_blk rfl rfl) hQ hG.2.1 hG.2.2.1 hG.2.2.2.1 O f1 0 f2 7 rfl))).trans ?_
      refine (if_pos strEq.1).trans ?_
      refine (if_pos strEq.2).trans ?_
      refine (if_pos (by rw [hO]; simp; omega)).trans ?_
      refine (if_pos (by rw [hO, show 0 + Z.length = O.length by omega]; exact strEq.2)).trans ?_
      exact if_pos (decide_eq_true (by rw [hO, show 0 + Z.length = O.length by omega]))
    · refine Runs.valT0 (tCOOk _ _ _ _ _ _ _ _ _ _) (F := 100) (n := 4) (pr := [(67, .bool false)]) ((nfCO3b kind vip n at_ mo pr w x po nn aa Z O [] 0 0 false (fun _ => 0) 0 0 [] _).trans ?_)
      refine (if_pos (cdec_true.2 (sayR ⟨by decide, by decide⟩ hk))).trans ?_
      refine (if_pos (cdec_true.2 say)).trans ?_
      refine (if_pos (cdec_true.2 (.mk [(dpD w n, 0)] 4 pr (dF w x po) _ _ (rowP_blk rfl rfl) (by simp) hd (oneP w n 0) hr Z e1 0 e2 2 rfl))).trans ?_
      refine (if_pos (decide_eq_false (show ¬ (Z.length : Int) < 9 by omega))).trans ?_
      refine (if_pos (by simp)).trans ?_
      refine (if_pos ⟨by omega, rfl, by omega⟩).trans ?_
      refine (if_pos ⟨rfl, rfl, by simp, rfl, by simp⟩).trans ?_
      refine (if_pos (cdec_true.2 (sayR ⟨by omega, by omega⟩ (by rw [show ((0 + Z.length : Nat) : Int) = (Z.length : Int) by omega]; exact ha)))).trans ?_
      refine (if_pos ⟨by omega, by omega⟩).trans ?_
      refine (if_pos ⟨by simp; omega, rfl⟩).trans ?_
      exact if_pos (cdec_true.2 (.mk O _ _ (bOk_row rfl hO (by omega)) (by omega) 0 0 dZ [] 2 hG 5 rfl))
  · have hm : mayM 5 (dF w x po) [(dpD w n, 3)] := mayOne hv (by omega) (by omega) (fun h => by omega)
    obtain ⟨hl9, hle⟩ := encL_bd (k := 5) (pr := pr) (P := [(dpD w n, 3)]) hd (oneP w n 3)
    have hPl : ([(dpD w n, 3)] : PL).length ≤ 20 := by simp
    generalize hZ : encL 5 pr (dF w x po) [(dpD w n, 3)] = Z at hl9 hle
    have e1 : encZ 5 pr (dF w x po) [(dpD w n, 3)] = Z := (if_pos hm).trans hZ
    have e2 : encE 5 (dF w x po) [(dpD w n, 3)] = 0 := if_pos hm
    clear hZ
    obtain ⟨aa, ha⟩ : ∃ aa : Nat, at_ % (Z.length : Int) = aa := ⟨(at_ % (Z.length : Int)).toNat, by have := Int.emod_nonneg at_ (show (Z.length : Int) ≠ 0 by omega); omega⟩
    have hal : aa < Z.length := by have := Int.emod_lt_of_pos at_ (show 0 < (Z.length : Int) by omega); omega
    have hO := setB (Z := Z) (aa := aa) hmo
    have hOl : (Z.set aa (u8i mo)).length = Z.length := by simp
    generalize Z.set aa (u8i mo) = O at hO hOl
    rcases dc_some O with ⟨k1, pr1, d1, Q, hG⟩ | hG
    · have hQ : Q.length ≤ 1000000 := by have := hG.1.1.2.2.1; omega
      obtain ⟨w1, u, po1, rfl⟩ := dF_of d1
      have f1 : encZ k1 pr1 (dF w1 u po1) Q = O := (if_pos hG.1).trans hG.2.2.2.2
      have f2 : encE k1 (dF w1 u po1) Q = 0 := if_pos hG.1
      refine Runs.valT0 (tCOOk _ _ _ _ _ _ _ _ _ _) (F := 100) (n := 4) (pr := [(67, .bool false), (102, .bool true)]) ((nfCO4g kind vip n at_ mo pr w x po nn aa Z O [] k1 pr1 w1 u po1 Q.length (itP Q) _).trans ?_)
      refine (if_pos (cdec_true.2 (sayR ⟨by decide, by decide⟩ hk))).trans ?_
      refine (if_pos (cdec_true.2 say)).trans ?_
      refine (if_pos (cdec_true.2 (.mk [(dpD w n, 3)] 5 pr (dF w x po) _ _ (rowP_blk rfl rfl) (by simp) hd (oneP w n 3) hr Z e1 0 e2 2 rfl))).trans ?_
      refine (if_pos (decide_eq_false (show ¬ (Z.length : Int) < 9 by omega))).trans ?_
      refine (if_pos (by simp)).trans ?_
      refine (if_pos ⟨by omega, rfl, by omega⟩).trans ?_
      refine (if_pos ⟨rfl, rfl, by simp, rfl, by simp⟩).trans ?_
      refine (if_pos (cdec_true.2 (sayR ⟨by omega, by omega⟩ (by rw [show ((0 + Z.length : Nat) : Int) = (Z.length : Int) by omega]; exact ha)))).trans ?_
      refine (if_pos ⟨by omega, by omega⟩).trans ?_
      refine (if_pos ⟨by simp; omega, rfl⟩).trans ?_
      refine (if_pos (cdec_true.2 (.mk O _ _ (bOk_row rfl hO (by omega)) (by omega) k1 pr1 (dF w1 u po1) Q 0 (.inl ⟨hG, rfl⟩) 5 rfl))).trans ?_
      refine (if_pos (cdec_true.2 (.mk Q k1 pr1 (dF w1 u po1) _ _ (rowP_blk rfl rfl) hQ hG.2.1 hG.2.2.1 hG.2.2.2.1 O f1 0 f2 7 rfl))).trans ?_
      refine (if_pos strEq.1).trans ?_
      refine (if_pos strEq.2).trans ?_
      refine (if_pos (by rw [hO]; simp; omega)).trans ?_
      refine (if_pos (by rw [hO, show 0 + Z.length = O.length by omega]; exact strEq.2)).trans ?_
      exact if_pos (decide_eq_true (by rw [hO, show 0 + Z.length = O.length by omega]))
    · refine Runs.valT0 (tCOOk _ _ _ _ _ _ _ _ _ _) (F := 100) (n := 4) (pr := [(67, .bool false)]) ((nfCO4b kind vip n at_ mo pr w x po nn aa Z O [] 0 0 false (fun _ => 0) 0 0 [] _).trans ?_)
      refine (if_pos (cdec_true.2 (sayR ⟨by decide, by decide⟩ hk))).trans ?_
      refine (if_pos (cdec_true.2 say)).trans ?_
      refine (if_pos (cdec_true.2 (.mk [(dpD w n, 3)] 5 pr (dF w x po) _ _ (rowP_blk rfl rfl) (by simp) hd (oneP w n 3) hr Z e1 0 e2 2 rfl))).trans ?_
      refine (if_pos (decide_eq_false (show ¬ (Z.length : Int) < 9 by omega))).trans ?_
      refine (if_pos (by simp)).trans ?_
      refine (if_pos ⟨by omega, rfl, by omega⟩).trans ?_
      refine (if_pos ⟨rfl, rfl, by simp, rfl, by simp⟩).trans ?_
      refine (if_pos (cdec_true.2 (sayR ⟨by omega, by omega⟩ (by rw [show ((0 + Z.length : Nat) : Int) = (Z.length : Int) by omega]; exact ha)))).trans ?_
      refine (if_pos ⟨by omega, by omega⟩).trans ?_
      refine (if_pos ⟨by simp; omega, rfl⟩).trans ?_
      exact if_pos (cdec_true.2 (.mk O _ _ (bOk_row rfl hO (by omega)) (by omega) 0 0 dZ [] 2 hG 5 rfl))

end Go.Proofs.Ytjlepcfeeicdfaa.L
