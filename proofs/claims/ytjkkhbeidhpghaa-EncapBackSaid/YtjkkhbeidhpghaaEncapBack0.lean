/- EncapBack's run. -/
import Derived.Test.YtjkkhbeidhpghaaEncapBackN
import Derived.Test.YtjkkhbeidhpghaaSayFour
set_option autoImplicit false
set_option maxRecDepth 100000
set_option linter.unusedVariables false
set_option linter.unusedSimpArgs false
namespace Go.Proofs.Ytjkkhbeidhpghaa.L
open Go Go.Abs

theorem sayRNt {h : AHeap} {a v : AV} {l : List UInt8} (g : bOk h a = true ∧ bOf h a = l) (hn : nOf a ≤ 70368744177664) (hr : netV .i64 (netR l) = v) : Says eRNet [a] h v [] := ⟨by
  show some (bOk h a && decide (nOf a ≤ 70368744177664), netV .i64 (netR (bOf h a)), h) = _
  rw [g.1, g.2, hr, decide_eq_true hn, List.append_nil]; rfl⟩
theorem in_back (v u t d6 : Bool) (n m : Int) (d : List UInt8) (p : Nat) (hd : d.length ≤ 2000) (hp : p ≤ 100) : ∃ (C : Int) (I : List UInt8), I.length = frH v + (hdn u + d.length) ∧ inF (bldF v u t false n 0 d p) v d6 m (frA t) (frA t + frH v + (hdn u + d.length) : Nat) = outF d6 t v m C I ∧ mkO d6 m (prE v) I.length = ipH d6 (prE v) I.length C (dAdrB 150) (dAdrB m) ∧
    (bldF v u t false n 0 d p) = (bldE v t ++ I) ++ List.replicate p 0 ∧ (byt I 0 / 16 = if v = true then 6 else 4) ∧ (d6 = false → chkI (ipH false (prE v) I.length C (dAdrB 150) (dAdrB m)) = 0) := by
  have hl : (bldG v u false n 0 d).length = hdn u + d.length := segB_length _ _ _ _ _ _
  obtain ⟨C0, h0, h1, h2⟩ := bldF_frm v u t false n 0 d p hd
  unfold frm at h1
  rw [hl] at h1 h2
  have hI : (ipH v (prt u) (hdn u + d.length : Nat) C0 (kSrcB n) kDstB ++ bldG v u false n 0 d).length = frH v + (hdn u + d.length) := by rw [List.length_append, ipH_length rfl rfl, hl]
  have hH : frH v ≤ 40 := by cases v <;> decide
  have hh : hdn u ≤ 20 := by cases u <;> decide
  obtain ⟨C1, g0, g1, g2⟩ := mkO_ip d6 v m (L := frH v + (hdn u + d.length)) (by omega)
  refine ⟨C1, ipH v (prt u) (hdn u + d.length : Nat) C0 (kSrcB n) kDstB ++ bldG v u false n 0 d, hI, ?_, by rw [hI]; exact g1, by rw [h1, List.append_assoc, List.append_assoc], ?_, fun e => by rw [hI]; exact g2 e⟩
  · unfold inF outF
    rw [h1, withR_E]
    have e1 : ((frA t + frH v + (hdn u + d.length) : Nat) : Int) - ((frA t : Nat) : Int) = ((frH v + (hdn u + d.length) : Nat) : Int) := by omega
    have e2 : (((frA t + frH v + (hdn u + d.length) : Nat) : Int)).toNat - (((frA t : Nat) : Int)).toNat = frH v + (hdn u + d.length) := by omega
    have e3 : (((frA t : Nat) : Int)).toNat = (bldE v t).length := by rw [bldE_length]; omega
    rw [e1, e2, e3, List.drop_left, show (if v = true then (41 : Int) else 4) = prE v from rfl, g1, hI, ← List.append_assoc, List.take_append_of_le_length (by rw [hI]; exact Nat.le_refl _), List.take_of_length_le (by rw [hI]; exact Nat.le_refl _), List.append_assoc]
  · cases v
    · show ((u8i (69 + (0 : Nat))).toNat : Int) / 16 = 4
      rw [u8i_toNat]; decide
    · show ((96 : UInt8).toNat : Int) / 16 = 6
      decide

theorem bkRunF (v u t : Bool) (n m : Int) (d F O Y I : List UInt8) (A L p : Nat) (hd : d.length ≤ 400) (hp : p ≤ 40) (hA : 14 ≤ A ∧ A ≤ 18) (hL : I.length = L ∧ 1 ≤ L ∧ L ≤ 2000) (hF : F = Y ++ List.replicate p 0) (hY : Y.length = A + L) (hFI0 : Y.drop A = I) (hol : O.length = A + (20 + L)) (hOI0 : O.drop (A + 20) = I)
    (hn : netV .i64 (netR O) = .tup [.int .i64 (A : Int), .int .i64 2048, .int .i64 0]) (hsum : sumI ((O.drop A).take 20) 0 = 65535)
    (hB : ∀ (h : AHeap) (a : AV) (k : Nat), (bOk h a = true ∧ bOf h a = d) → h.length = k → BuildR [.agg (keyV v u n), .int .u8 0, a, .bool t, .bool false, .int .i64 (p : Int)] h (slB k F) [ownB F])
    (hIn : ∀ (h : AHeap) (a : AV) (k : Nat), (bOk h a = true ∧ bOf h a = F) → h.length = k → InR [a, .agg (dAdr false 150), .agg (dAdr true 150), .agg (dAdr false m)] h (.tup [slB k O, .int .i64 0]) [ownB O])
    (hOut : ∀ (h : AHeap) (a : AV) (k : Nat), (bOk h a = true ∧ bOf h a = O) → h.length = k → OutYR [a] h (.tup [slB k Y, .agg (dAdr false m), .bool true]) [ownB Y]) :
    ∃ h', Runs Try.prog 3 [.int .i64 n, .bool v, .bool u, slB 0 d, .bool t, .int .i64 (p : Int), .int .i64 m, .bool false] [farB d] (.bool true) h' := by
  have hFl : F.length = A + L + p := by rw [hF, List.length_append, hY, List.length_replicate]
  have hwA : IntKind.i64.wrap ((A : Int) + 20) = ((A + 20 : Nat) : Int) := by rw [wrapI64 (by omega)]; omega
  have hwp : IntKind.i64.wrap ((F.length : Int) - (p : Int)) = ((A + L : Nat) : Int) := by rw [wrapI64 (by omega)]; omega
  have hwy : IntKind.i64.wrap ((Y.length : Int) + 20) = ((A + (20 + L) : Nat) : Int) := by rw [wrapI64 (by omega)]; omega
  have hYF : List.take (((A + L : Nat) : Int).toNat - 0) F = List.take Y.length Y := by
    rw [List.take_length, hF]; exact List.take_left' (by omega)
  have hOI : List.take (O.length - ((A + 20 : Nat) : Int).toNat) (List.drop (0 + ((A + 20 : Nat) : Int).toNat * 1) O) = I := by
    rw [show 0 + ((A + 20 : Nat) : Int).toNat * 1 = A + 20 by omega, hOI0]; exact List.take_of_length_le (by omega)
  have hFI : List.take (((A + L : Nat) : Int).toNat - (A : Int).toNat) (List.drop (0 + (A : Int).toNat * 1) F) = I := by
    rw [show 0 + (A : Int).toNat * 1 = A by omega, hF, List.drop_append_of_le_length (by omega), hFI0]; exact List.take_left' (by omega)
  refine Runs.valT0 (tBKOk F O Y m false (.tup [.int .i64 (A : Int), .int .i64 2048, .int .i64 0])) (F := 100) (n := 5) (pr := [(32, .bool false), (36, .bool false), (39, .bool false), (86, .bool false), (98, .bool false), (111, .bool true), (122, .bool true), (140, .bool true)]) ?_
  refine (nfBKF v u t n (p : Int) m (A : Int) d F O Y _).trans ?_
  refine (if_pos (decide_eq_false (by omega))).trans ?_
  refine (if_pos (decide_eq_false (by omega))).trans ?_
  refine (if_pos (decide_eq_false (by omega))).trans ?_
  refine (if_pos (cdec_true.2 (hB _ _ _ (bOk_row rfl rfl rfl) rfl))).trans ?_
  refine (if_pos (cdec_true.2 (hIn _ _ _ (bOk_row rfl rfl rfl) rfl))).trans ?_
  refine (if_pos (AV.beq_self _)).trans ?_
  refine (if_pos (AV.beq_self _)).trans ?_
  refine (if_pos (cdec_true.2 (hOut _ _ _ (bOk_row rfl rfl rfl) rfl))).trans ?_
  refine (if_pos (cdec_true.2 (sayRNt (bOk_row rfl rfl rfl) (by show O.length ≤ _; omega) hn))).trans ?_
  refine (if_pos (by simp)).trans ?_
  refine (if_pos (by simp)).trans ?_
  refine (if_pos (by simp only [bys_drop, bys_take, bysAll])).trans ?_
  refine (if_pos (by simp only [hwA, hwp, capOf_f, bys_length]; omega)).trans ?_
  refine (if_pos (by simp only [hwA, hwp, capOf_f, bys_length]; omega)).trans ?_
  refine (if_pos (by simp only [bys_drop, bys_take, bysAll])).trans ?_
  refine (if_pos (by simp only [bys_take, bysMap]; rw [hwp, hYF]; simp)).trans ?_
  refine (if_pos (by rw [hwy, hol]; simp)).trans ?_
  refine (if_pos (by simp only [hwA, hwp, capOf_f, bys_length]; omega)).trans ?_
  refine (if_pos (by simp only [hwA, hwp, capOf_f, bys_length]; omega)).trans ?_
  refine (if_pos (cdec_true.2 (sayRSum (l := (O.drop A).take 20) (bOk_cut (l := O) rfl rfl (by rw [hwA]; omega) (by rw [hwA, show 0 + (A : Int).toNat * 1 = A by omega, show ((A + 20 : Nat) : Int).toNat - (A : Int).toNat = 20 by omega])) ⟨by rw [nOf_sl, hwA]; omega, by decide, by decide⟩ hsum))).trans ?_
  refine (if_pos (by simp only [hwA, hwp, capOf_f, bys_length]; omega)).trans ?_
  refine (if_pos (by simp only [hwA, hwp, capOf_f, bys_length]; omega)).trans ?_
  refine (if_pos (by simp only [bys_drop, bys_take, bysAll])).trans ?_
  refine (if_pos (by simp only [hwA, hwp, capOf_f, bys_length]; omega)).trans ?_
  refine (if_pos (by simp only [hwA, hwp, capOf_f, bys_length]; omega)).trans ?_
  refine (if_pos (by simp only [hwA, hwp, capOf_f, bys_length]; omega)).trans ?_
  refine (if_pos (by simp only [bys_drop, bys_take, bysAll])).trans ?_
  refine (if_pos (by simp only [bys_drop, bys_take, bysMap]; rw [hwA, hwp, hOI, hFI]; simp)).trans ?_
  rfl

theorem bkRunT (v u t : Bool) (n m : Int) (d F O Y I : List UInt8) (A L p : Nat) (hd : d.length ≤ 400) (hp : p ≤ 40) (hA : 14 ≤ A ∧ A ≤ 18) (hL : I.length = L ∧ 1 ≤ L ∧ L ≤ 2000) (hF : F = Y ++ List.replicate p 0) (hY : Y.length = A + L) (hFI0 : Y.drop A = I) (hol : O.length = A + (40 + L)) (hOI0 : O.drop (A + 40) = I)
    (hn : netV .i64 (netR O) = .tup [.int .i64 (A : Int), .int .i64 34525, .int .i64 0]) 
    (hB : ∀ (h : AHeap) (a : AV) (k : Nat), (bOk h a = true ∧ bOf h a = d) → h.length = k → BuildR [.agg (keyV v u n), .int .u8 0, a, .bool t, .bool false, .int .i64 (p : Int)] h (slB k F) [ownB F])
    (hIn : ∀ (h : AHeap) (a : AV) (k : Nat), (bOk h a = true ∧ bOf h a = F) → h.length = k → InR [a, .agg (dAdr false 150), .agg (dAdr true 150), .agg (dAdr true m)] h (.tup [slB k O, .int .i64 0]) [ownB O])
    (hOut : ∀ (h : AHeap) (a : AV) (k : Nat), (bOk h a = true ∧ bOf h a = O) → h.length = k → OutYR [a] h (.tup [slB k Y, .agg (dAdr true m), .bool true]) [ownB Y]) :
    ∃ h', Runs Try.prog 3 [.int .i64 n, .bool v, .bool u, slB 0 d, .bool t, .int .i64 (p : Int), .int .i64 m, .bool true] [farB d] (.bool true) h' := by
  have hFl : F.length = A + L + p := by rw [hF, List.length_append, hY, List.length_replicate]
  have hwA : IntKind.i64.wrap ((A : Int) + 40) = ((A + 40 : Nat) : Int) := by rw [wrapI64 (by omega)]; omega
  have hwp : IntKind.i64.wrap ((F.length : Int) - (p : Int)) = ((A + L : Nat) : Int) := by rw [wrapI64 (by omega)]; omega
  have hwy : IntKind.i64.wrap ((Y.length : Int) + 40) = ((A + (40 + L) : Nat) : Int) := by rw [wrapI64 (by omega)]; omega
  have hYF : List.take (((A + L : Nat) : Int).toNat - 0) F = List.take Y.length Y := by
    rw [List.take_length, hF]; exact List.take_left' (by omega)
  have hOI : List.take (O.length - ((A + 40 : Nat) : Int).toNat) (List.drop (0 + ((A + 40 : Nat) : Int).toNat * 1) O) = I := by
    rw [show 0 + ((A + 40 : Nat) : Int).toNat * 1 = A + 40 by omega, hOI0]; exact List.take_of_length_le (by omega)
  have hFI : List.take (((A + L : Nat) : Int).toNat - (A : Int).toNat) (List.drop (0 + (A : Int).toNat * 1) F) = I := by
    rw [show 0 + (A : Int).toNat * 1 = A by omega, hF, List.drop_append_of_le_length (by omega), hFI0]; exact List.take_left' (by omega)
  refine Runs.valT0 (tBKOk F O Y m true (.tup [.int .i64 (A : Int), .int .i64 34525, .int .i64 0])) (F := 100) (n := 5) (pr := [(32, .bool false), (36, .bool false), (39, .bool false), (86, .bool false), (98, .bool false), (111, .bool true), (140, .bool true)]) ?_
  refine (nfBKT v u t n (p : Int) m (A : Int) d F O Y _).trans ?_
  refine (if_pos (decide_eq_false (by omega))).trans ?_
  refine (if_pos (decide_eq_false (by omega))).trans ?_
  refine (if_pos (decide_eq_false (by omega))).trans ?_
  refine (if_pos (cdec_true.2 (hB _ _ _ (bOk_row rfl rfl rfl) rfl))).trans ?_
  refine (if_pos (cdec_true.2 (hIn _ _ _ (bOk_row rfl rfl rfl) rfl))).trans ?_
  refine (if_pos (AV.beq_self _)).trans ?_
  refine (if_pos (AV.beq_self _)).trans ?_
  refine (if_pos (cdec_true.2 (hOut _ _ _ (bOk_row rfl rfl rfl) rfl))).trans ?_
  refine (if_pos (cdec_true.2 (sayRNt (bOk_row rfl rfl rfl) (by show O.length ≤ _; omega) hn))).trans ?_
  refine (if_pos (by simp)).trans ?_
  refine (if_pos (by simp)).trans ?_
  refine (if_pos (by simp only [bys_drop, bys_take, bysAll])).trans ?_
  refine (if_pos (by simp only [hwA, hwp, capOf_f, bys_length]; omega)).trans ?_
  refine (if_pos (by simp only [hwA, hwp, capOf_f, bys_length]; omega)).trans ?_
  refine (if_pos (by simp only [bys_drop, bys_take, bysAll])).trans ?_
  refine (if_pos (by simp only [bys_take, bysMap]; rw [hwp, hYF]; simp)).trans ?_
  refine (if_pos (by rw [hwy, hol]; simp)).trans ?_
  refine (if_pos (by simp only [hwA, hwp, capOf_f, bys_length]; omega)).trans ?_
  refine (if_pos (by simp only [hwA, hwp, capOf_f, bys_length]; omega)).trans ?_
  refine (if_pos (by simp only [bys_drop, bys_take, bysAll])).trans ?_
  refine (if_pos (by simp only [hwA, hwp, capOf_f, bys_length]; omega)).trans ?_
  refine (if_pos (by simp only [hwA, hwp, capOf_f, bys_length]; omega)).trans ?_
  refine (if_pos (by simp only [hwA, hwp, capOf_f, bys_length]; omega)).trans ?_
  refine (if_pos (by simp only [bys_drop, bys_take, bysAll])).trans ?_
  refine (if_pos (by simp only [bys_drop, bys_take, bysMap]; rw [hwA, hwp, hOI, hFI]; simp)).trans ?_
  rfl

theorem runEncapBack (n : Int) (v u : Bool) (d : List UInt8) (t : Bool) (pad m : Int) (d6 : Bool) (hn : -9223372036854775808 ≤ n ∧ n < 9223372036854775808) (hd : d.length ≤ maxLen) (hp : -9223372036854775808 ≤ pad ∧ pad < 9223372036854775808) (hm : -9223372036854775808 ≤ m ∧ m < 9223372036854775808) :
    ∃ h', Runs Try.prog 3 [.int .i64 n, .bool v, .bool u, slB 0 d, .bool t, .int .i64 pad, .int .i64 m, .bool d6] [farB d] (.bool true) h' := by
  by_cases h1 : d.length ≤ 400
  case neg =>
    refine Runs.valT0 (tBKOk [] [] [] 0 false .nilFn) (F := 100) (n := 5) (pr := [(32, .bool true)]) ?_
    refine (nfBKX1 v u t d6 n pad m d _).trans ?_
    refine (if_pos (decide_eq_true (by omega))).trans ?_
    rfl
  by_cases h2 : pad < 0
  · refine Runs.valT0 (tBKOk [] [] [] 0 false .nilFn) (F := 100) (n := 5) (pr := [(32, .bool false), (36, .bool true)]) ?_
    refine (nfBKX2 v u t d6 n pad m d _).trans ?_
    refine (if_pos (decide_eq_false (by omega))).trans ?_
    refine (if_pos (decide_eq_true (by omega))).trans ?_
    rfl
  by_cases h3 : pad > 40
  · refine Runs.valT0 (tBKOk [] [] [] 0 false .nilFn) (F := 100) (n := 5) (pr := [(32, .bool false), (36, .bool false), (39, .bool true)]) ?_
    refine (nfBKX3 v u t d6 n pad m d _).trans ?_
    refine (if_pos (decide_eq_false (by omega))).trans ?_
    refine (if_pos (decide_eq_false (by omega))).trans ?_
    refine (if_pos (decide_eq_true (by omega))).trans ?_
    rfl
  obtain ⟨p, rfl⟩ : ∃ p : Nat, pad = (p : Int) := ⟨pad.toNat, by omega⟩
  have hl := bldF_len v u t false n 0 d p (by omega)
  have hA : 14 ≤ frA t ∧ frA t ≤ 18 := by cases t <;> decide
  have hH : 20 ≤ frH v ∧ frH v ≤ 40 := by cases v <;> decide
  have hD6 : frH d6 ≤ 40 := by cases d6 <;> decide
  have hh : hdn u ≤ 20 := by cases u <;> decide
  obtain ⟨g1, g2, g3⟩ := bldF_read v u t false n 0 d p (by omega) (by omega)
  obtain ⟨_, e2, _⟩ := vw_facts g1 g3 (by rw [kSrc_B]; exact adrB_wf rfl) (by rw [kDst_B]; exact adrB_wf rfl)
  obtain ⟨C, I, hI, hO, hmk, hF, hi0, hchk⟩ := in_back v u t d6 n m d p (by omega) (by omega)
  have hB : ∀ (h : AHeap) (a : AV) (q : Nat), (bOk h a = true ∧ bOf h a = d) → h.length = q → BuildR [.agg (keyV v u n), .int .u8 0, a, .bool t, .bool false, .int .i64 (p : Int)] h (slB q (bldF v u t false n 0 d p)) [ownB (bldF v u t false n 0 d p)] := fun h a q g hq => BuildR.mk v u t false n 0 d p h a q g (by omega) (by omega) hq
  have hIn : ∀ (h : AHeap) (a : AV) (q : Nat), (bOk h a = true ∧ bOf h a = (bldF v u t false n 0 d p)) → h.length = q → InR [a, .agg (dAdr false 150), .agg (dAdr true 150), .agg (dAdr d6 m)] h (.tup [slB q (inF (bldF v u t false n 0 d p) v d6 m (frA t) (frA t + frH v + (hdn u + d.length) : Nat)), .int .i64 0]) [ownB (inF (bldF v u t false n 0 d p) v d6 m (frA t) (frA t + frH v + (hdn u + d.length) : Nat))] :=
    fun h a q g hq => InR.ok (bldF v u t false n 0 d p) v d6 m n _ _ _ _ _ _ _ h a q g (by omega) g3 ⟨(readR_0 g1).1, e2⟩ ⟨by omega, by omega⟩ (by omega) hq
  rw [hO] at hIn
  have hol : (outF d6 t v m C I).length = frA t + (frH d6 + I.length) := by unfold outF; rw [List.length_append, List.length_append, bldE_length, ipH_length rfl rfl]
  have hnet : netR (outF d6 t v m C I) = ((frA t : Int), (if d6 = true then 34525 else 2048), 0) := by unfold outF; exact net_E _ _ _
  have hdr : (outF d6 t v m C I).drop (frA t) = ipH d6 (prE v) I.length C (dAdrB 150) (dAdrB m) ++ I := by unfold outF; exact List.drop_left' (bldE_length _ _)
  have hdI : (outF d6 t v m C I).drop (frA t + frH d6) = I := by
    rw [← List.drop_drop, hdr]; exact List.drop_left' (ipH_length rfl rfl)
  have hOut : ∀ (h : AHeap) (a : AV) (q : Nat), (bOk h a = true ∧ bOf h a = outF d6 t v m C I) → h.length = q → OutYR [a] h (.tup [slB q (bldE v t ++ I), .agg (dAdr d6 m), .bool true]) [ownB (bldE v t ++ I)] :=
    fun h a q g hq => OutYR.mk d6 t v m C I h a q g ⟨by omega, by omega⟩ hmk hi0 hq
  have hYl : (bldE v t ++ I).length = frA t + I.length := by rw [List.length_append, bldE_length]
  have hYd : (bldE v t ++ I).drop (frA t) = I := List.drop_left' (bldE_length _ _)
  cases d6
  · have hs : sumI (((outF false t v m C I).drop (frA t)).take 20) 0 = 65535 := by
      have hc := hchk rfl
      rw [hdr, show List.take 20 (ipH false (prE v) I.length C (dAdrB 150) (dAdrB m) ++ I) = ipH false (prE v) I.length C (dAdrB 150) (dAdrB m) from List.take_left' (ipH_length (v := false) rfl rfl)]
      unfold chkI at hc; omega
    exact bkRunF v u t n m d _ _ _ I (frA t) I.length p h1 (by omega) hA ⟨rfl, by omega, by omega⟩ hF hYl hYd hol hdI (by rw [hnet]; rfl) hs hB hIn hOut
  · exact bkRunT v u t n m d _ _ _ I (frA t) I.length p h1 (by omega) hA ⟨rfl, by omega, by omega⟩ hF hYl hYd hol hdI (by rw [hnet]; rfl) hB hIn hOut

end Go.Proofs.Ytjkkhbeidhpghaa.L
