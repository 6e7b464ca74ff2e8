/- encap.Out of what was put in. -/
import Derived.Test.YtjkkhbeidhpghaaOutYN
import Derived.Test.YtjkkhbeidhpghaaEncKit
set_option autoImplicit false
set_option maxRecDepth 100000
set_option linter.unusedVariables false
set_option linter.unusedSimpArgs false
namespace Go.Proofs.Ytjkkhbeidhpghaa.L
open Go Go.Abs

theorem cat2 {X Y : List UInt8} {N i : Nat} (hN : N = X.length + Y.length) (hi : i = X.length) : putCells (putCells (zrep N [AV.int .u8 0]) 0 (bys X)) i (bys Y) = bys (X ++ Y) := by
  subst hN
  rw [zrep_one, show List.replicate (X.length + Y.length) (0 : UInt8) = [] ++ List.replicate (X.length + Y.length) 0 from rfl, putApp (P := []) (xs := X) (k := 0) (by omega) rfl, List.nil_append, putApp (P := X) (xs := Y) (by omega) hi, show X.length + Y.length - X.length - Y.length = 0 by omega]
  simp
theorem byt_rr (l : List UInt8) (i : Nat) : 0 ≤ byt l i ∧ byt l i < 256 := by have := byt_range l i; omega

theorem oyRunFF (O M W OUT : List UInt8) (a : UInt8) (A m : Int) (hl : O.length ≤ 60000) (hA : 14 ≤ A ∧ A ≤ 18) (hlen : A + 20 + 1 ≤ O.length) (hn : netV .u16 (netR O) = .tup [.int .i64 A, .int .u16 2048, .int .i64 0]) (hx : adr4 ((O.drop (A.toNat + 12)).take 4) 0 = dAdr false 150) (hy : adr4 ((O.drop (A.toNat + 16)).take 4) 0 = dAdr false m)
    (hp : byt O (A.toNat + 9) = 4) (hM : make4 (dAdr false 150) (dAdr false m) 4 ((O.length - A.toNat : Nat) - 20) = M) (he : M = (O.drop A.toNat).take 20) (h0 : byt O (A.toNat + 20) / 16 = 4) (hW : withR O 2048 = a :: W) (hLA : (a :: W).length = A.toNat) (hO : OUT = (a :: W) ++ O.drop (A.toNat + 20)) :
    ∃ v1 h1, Runs Try.prog 13 [slB 0 O] [farB O] v1 h1 ∧ ∃ ks, ∀ K, Den h1 1 K ks v1 (.tup [slB K OUT, .agg (dAdr false m), .bool true]) [ownB OUT] ∧ KsOk ks := by
  have hwi : w6 (A + 20) = A + 20 := wrapI64 (by omega)
  have hw : (w6 (A + 20)).toNat = A.toNat + 20 := by rw [hwi]; omega
  have h00 : 0 + (A.toNat + 20) * 1 + 0 = A.toNat + 20 := by omega
  have hpx : 0 + A.toNat * 1 + 9 = A.toNat + 9 := by omega
  have hpp : intV (bys O)[0 + A.toNat * 1 + 9]? = byt O (A.toNat + 9) := by rw [hpx]; simp
  have hb0 : intV (bys O)[A.toNat + 20]? = byt O (A.toNat + 20) := by simp
  have hb1 := byt_rr O (A.toNat + 20)
  have hw2 : w6 (((O.length - A.toNat : Nat) : Int) - 20) = (O.length - A.toNat : Nat) - 20 := wrapI64 (by omega)
  have hmk : makes4 (dAdr false 150) (dAdr false m) ((O.length - A.toNat : Nat) - 20) := by rw [dAdr_B, dAdr_B]; exact ⟨rfl, rfl, by omega, by omega⟩
  refine ⟨(AV.tup [AV.sl (some (7, 0)) (0 + (a :: W).length + (O.length - (w6 (A + 20)).toNat)) (roomOf (nO (a :: W).length (O.length - (w6 (A + 20)).toNat)) 0 0 false 0 false - (a :: W).length - (O.length - (w6 (A + 20)).toNat)) false, AV.agg (dAdr false m), AV.bool true]), (hOYFF12 O M W a A m), Runs.ofT0 (tOYOk (.tup [.int .i64 A, .int .u16 2048, .int .i64 0]) (.tup [.agg (dAdr false 150), .int .i64 0]) (.tup [.agg (dAdr false m), .int .i64 0]) M (a :: W)) (F := 100) (n := 6) (pr := [(17, .bool false), (37, .bool false), (49, .bool true), (54, .bool true)]) ?_, [some 7], fun K => ⟨?_, ksOk1 _⟩⟩
  · refine (nfOYFF O M W a A m _).trans ?_
    refine (if_pos (cdec_true.2 (sayNet (bOk_row rfl rfl rfl) (by show O.length ≤ _; omega) hn))).trans ?_
    refine (if_pos (by omega)).trans ?_
    refine (if_neg (by rw [decide_eq_true_eq]; omega)).trans ?_
    refine (if_pos ⟨by decide, by simp only [capOf_f]; omega⟩).trans ?_
    refine (if_pos (cdec_true.2 (sayFrom (bOk_cut (l := O) (L := (O.drop (A.toNat + 12)).take 4) rfl rfl (by omega) (by rw [show 0 + A.toNat * 1 + 12 = A.toNat + 12 by omega])) (.inr ⟨rfl, hx⟩)))).trans ?_
    refine (if_pos ⟨by decide, by simp only [capOf_f]; omega⟩).trans ?_
    refine (if_pos (cdec_true.2 (sayFrom (bOk_cut (l := O) (L := (O.drop (A.toNat + 16)).take 4) rfl rfl (by omega) (by rw [show 0 + A.toNat * 1 + 16 = A.toNat + 16 by omega])) (.inr ⟨rfl, hy⟩)))).trans ?_
    refine (if_pos ⟨by decide, by omega⟩).trans ?_
    refine (if_pos (by rw [hpx]; simp; omega)).trans ?_
    refine (if_pos (cdec_true.2 (say4Mk (cs := dAdr false 150) (ds := dAdr false m) (dAdr_wf _ _) (dAdr_wf _ _) (by rw [hpp, hp]; decide) (by rw [hw2]; exact hmk) (by rw [hw2, hpp, hp]; exact hM) rfl))).trans ?_
    refine (if_pos ⟨by decide, by simp only [capOf_f]; omega⟩).trans ?_
    refine (if_pos (cdec_true.2 (sayEq (l := M) (m := (O.drop A.toNat).take 20) (bOk_row rfl rfl rfl) (bOk_cut (l := O) rfl rfl (by omega) (by rw [show 0 + A.toNat * 1 + 0 = A.toNat by omega])) (decide_eq_true he)))).trans ?_
    refine (if_pos (AV.beq_self _)).trans ?_
    refine (if_pos (by rw [hwi]; simp; omega)).trans ?_
    refine (if_pos (by rw [hwi]; omega)).trans ?_
    refine (if_pos (by rw [hpp, hp]; decide)).trans ?_
    refine (if_pos ⟨by decide, by rw [hw]; omega⟩).trans ?_
    refine (if_pos (by rw [hw, h00]; simp; omega)).trans ?_
    refine (if_pos (by rw [hw, h00, hb0, Int.fdiv_eq_ediv_of_nonneg _ (by omega), h0]; decide)).trans ?_
    refine (if_pos (cdec_true.2 (sayWi (l := O) (bOk_row rfl rfl rfl) (by show O.length ≤ _; omega) (by decide) hW rfl))).trans ?_
    repeat (first | (refine (if_pos ?_).trans ?_; · (repeat' apply And.intro) <;> first | omega | (simp (disch := omega) only [iv, w6, nO, tk, intV, wrapI64, roomOf, capOf_f, zrep_one, List.length_replicate, putCells_len, bys_length, bysTakeL, cutL, List.length_take, List.length_drop, Int.toNat_natCast, decide_eq_true_eq, decide_eq_false_iff_not] <;> omega) | (simp (disch := omega) only [iv, w6, nO, tk, intV, wrapI64, roomOf, capOf_f, zrep_one, List.length_replicate, putCells_len, bys_length, bysTakeL, cutL, List.length_take, List.length_drop, Int.toNat_natCast, decide_eq_true_eq, decide_eq_false_iff_not]; done) | (simp; done)) | (refine (if_neg ?_).trans ?_; · first | omega | (simp (disch := omega) only [iv, w6, nO, tk, intV, wrapI64, roomOf, capOf_f, zrep_one, List.length_replicate, putCells_len, bys_length, bysTakeL, cutL, List.length_take, List.length_drop, Int.toNat_natCast, decide_eq_true_eq, decide_eq_false_iff_not] <;> omega) | (simp (disch := omega) only [iv, w6, nO, tk, intV, wrapI64, roomOf, capOf_f, zrep_one, List.length_replicate, putCells_len, bys_length, bysTakeL, cutL, List.length_take, List.length_drop, Int.toNat_natCast, decide_eq_true_eq, decide_eq_false_iff_not]; done)))
    repeat (refine (if_pos (AV.beq_self _)).trans ?_)
    rfl
  · have hC : (O.drop (A.toNat + 20)).length = O.length - (A.toNat + 20) := List.length_drop
    have hT : nO (a :: W).length (O.length - (w6 (A + 20)).toNat) = (a :: W).length + (O.length - (A.toNat + 20)) := by
      rw [hw]
      simp (disch := omega) only [nO, w6, wrapI64]
      omega
    have hOL : OUT.length = (a :: W).length + (O.length - (A.toNat + 20)) := by rw [hO, List.length_append, hC]
    have hn2 : (0 + (a :: W).length + (O.length - (w6 (A + 20)).toNat)) = OUT.length := by rw [hOL, hw]; omega
    refine .tup _ _ _ _ _ (.cons _ [some 7] [] _ _ _ _ [ownB OUT] [] (denP (l := OUT) (by decide) rfl ?_ ?_ ?_ ?_) (.cons _ [] [] _ _ _ _ [] [] (.flat _ _ (by rw [dAdr_B]; exact adrB_free)) (.cons _ [] [] _ _ _ _ [] [] (.flat _ _ rfl) (.nil _))))
    · rw [hT, hw]
      simp only [tk]
      rw [bysTakeL, cutL, List.take_of_length_le (by rw [hC]; exact Nat.le_refl _), cat2 (by rw [hC]) (by omega), hO]
    · rw [hT, hn2, hOL, hw]; simp only [roomOf]; omega
    · rw [hn2, hOL]; omega
    · rw [hn2, List.drop_zero, List.take_length]

theorem oyRunFT (O M W OUT : List UInt8) (a : UInt8) (A m : Int) (hl : O.length ≤ 60000) (hA : 14 ≤ A ∧ A ≤ 18) (hlen : A + 20 + 1 ≤ O.length) (hn : netV .u16 (netR O) = .tup [.int .i64 A, .int .u16 2048, .int .i64 0]) (hx : adr4 ((O.drop (A.toNat + 12)).take 4) 0 = dAdr false 150) (hy : adr4 ((O.drop (A.toNat + 16)).take 4) 0 = dAdr false m)
    (hp : byt O (A.toNat + 9) = 41) (hM : make4 (dAdr false 150) (dAdr false m) 41 ((O.length - A.toNat : Nat) - 20) = M) (he : M = (O.drop A.toNat).take 20) (h0 : byt O (A.toNat + 20) / 16 = 6) (hW : withR O 34525 = a :: W) (hLA : (a :: W).length = A.toNat) (hO : OUT = (a :: W) ++ O.drop (A.toNat + 20)) :
    ∃ v1 h1, Runs Try.prog 13 [slB 0 O] [farB O] v1 h1 ∧ ∃ ks, ∀ K, Den h1 1 K ks v1 (.tup [slB K OUT, .agg (dAdr false m), .bool true]) [ownB OUT] ∧ KsOk ks := by
  have hwi : w6 (A + 20) = A + 20 := wrapI64 (by omega)
  have hw : (w6 (A + 20)).toNat = A.toNat + 20 := by rw [hwi]; omega
  have h00 : 0 + (A.toNat + 20) * 1 + 0 = A.toNat + 20 := by omega
  have hpx : 0 + A.toNat * 1 + 9 = A.toNat + 9 := by omega
  have hpp : intV (bys O)[0 + A.toNat * 1 + 9]? = byt O (A.toNat + 9) := by rw [hpx]; simp
  have hb0 : intV (bys O)[A.toNat + 20]? = byt O (A.toNat + 20) := by simp
  have hb1 := byt_rr O (A.toNat + 20)
  have hw2 : w6 (((O.length - A.toNat : Nat) : Int) - 20) = (O.length - A.toNat : Nat) - 20 := wrapI64 (by omega)
  have hmk : makes4 (dAdr false 150) (dAdr false m) ((O.length - A.toNat : Nat) - 20) := by rw [dAdr_B, dAdr_B]; exact ⟨rfl, rfl, by omega, by omega⟩
  refine ⟨(AV.tup [AV.sl (some (7, 0)) (0 + (a :: W).length + (O.length - (w6 (A + 20)).toNat)) (roomOf (nO (a :: W).length (O.length - (w6 (A + 20)).toNat)) 0 0 false 0 false - (a :: W).length - (O.length - (w6 (A + 20)).toNat)) false, AV.agg (dAdr false m), AV.bool true]), (hOYFT12 O M W a A m), Runs.ofT0 (tOYOk (.tup [.int .i64 A, .int .u16 2048, .int .i64 0]) (.tup [.agg (dAdr false 150), .int .i64 0]) (.tup [.agg (dAdr false m), .int .i64 0]) M (a :: W)) (F := 100) (n := 6) (pr := [(17, .bool false), (37, .bool false), (49, .bool false), (59, .bool true), (64, .bool true)]) ?_, [some 7], fun K => ⟨?_, ksOk1 _⟩⟩
  · refine (nfOYFT O M W a A m _).trans ?_
    refine (if_pos (cdec_true.2 (sayNet (bOk_row rfl rfl rfl) (by show O.length ≤ _; omega) hn))).trans ?_
    refine (if_pos (by omega)).trans ?_
    refine (if_neg (by rw [decide_eq_true_eq]; omega)).trans ?_
    refine (if_pos ⟨by decide, by simp only [capOf_f]; omega⟩).trans ?_
    refine (if_pos (cdec_true.2 (sayFrom (bOk_cut (l := O) (L := (O.drop (A.toNat + 12)).take 4) rfl rfl (by omega) (by rw [show 0 + A.toNat * 1 + 12 = A.toNat + 12 by omega])) (.inr ⟨rfl, hx⟩)))).trans ?_
    refine (if_pos ⟨by decide, by simp only [capOf_f]; omega⟩).trans ?_
    refine (if_pos (cdec_true.2 (sayFrom (bOk_cut (l := O) (L := (O.drop (A.toNat + 16)).take 4) rfl rfl (by omega) (by rw [show 0 + A.toNat * 1 + 16 = A.toNat + 16 by omega])) (.inr ⟨rfl, hy⟩)))).trans ?_
    refine (if_pos ⟨by decide, by omega⟩).trans ?_
    refine (if_pos (by rw [hpx]; simp; omega)).trans ?_
    refine (if_pos (cdec_true.2 (say4Mk (cs := dAdr false 150) (ds := dAdr false m) (dAdr_wf _ _) (dAdr_wf _ _) (by rw [hpp, hp]; decide) (by rw [hw2]; exact hmk) (by rw [hw2, hpp, hp]; exact hM) rfl))).trans ?_
    refine (if_pos ⟨by decide, by simp only [capOf_f]; omega⟩).trans ?_
    refine (if_pos (cdec_true.2 (sayEq (l := M) (m := (O.drop A.toNat).take 20) (bOk_row rfl rfl rfl) (bOk_cut (l := O) rfl rfl (by omega) (by rw [show 0 + A.toNat * 1 + 0 = A.toNat by omega])) (decide_eq_true he)))).trans ?_
    refine (if_pos (AV.beq_self _)).trans ?_
    refine (if_pos (by rw [hwi]; simp; omega)).trans ?_
    refine (if_pos (by rw [hwi]; omega)).trans ?_
    refine (if_pos (by rw [hpp, hp]; decide)).trans ?_
    refine (if_pos (by rw [hpp, hp]; decide)).trans ?_
    refine (if_pos ⟨by decide, by rw [hw]; omega⟩).trans ?_
    refine (if_pos (by rw [hw, h00]; simp; omega)).trans ?_
    refine (if_pos (by rw [hw, h00, hb0, Int.fdiv_eq_ediv_of_nonneg _ (by omega), h0]; decide)).trans ?_
    refine (if_pos (cdec_true.2 (sayWi (l := O) (bOk_row rfl rfl rfl) (by show O.length ≤ _; omega) (by decide) hW rfl))).trans ?_
    repeat (first | (refine (if_pos ?_).trans ?_; · (repeat' apply And.intro) <;> first | omega | (simp (disch := omega) only [iv, w6, nO, tk, intV, wrapI64, roomOf, capOf_f, zrep_one, List.length_replicate, putCells_len, bys_length, bysTakeL, cutL, List.length_take, List.length_drop, Int.toNat_natCast, decide_eq_true_eq, decide_eq_false_iff_not] <;> omega) | (simp (disch := omega) only [iv, w6, nO, tk, intV, wrapI64, roomOf, capOf_f, zrep_one, List.length_replicate, putCells_len, bys_length, bysTakeL, cutL, List.length_take, List.length_drop, Int.toNat_natCast, decide_eq_true_eq, decide_eq_false_iff_not]; done) | (simp; done)) | (refine (if_neg ?_).trans ?_; · first | omega | (simp (disch := omega) only [iv, w6, nO, tk, intV, wrapI64, roomOf, capOf_f, zrep_one, List.length_replicate, putCells_len, bys_length, bysTakeL, cutL, List.length_take, List.length_drop, Int.toNat_natCast, decide_eq_true_eq, decide_eq_false_iff_not] <;> omega) | (simp (disch := omega) only [iv, w6, nO, tk, intV, wrapI64, roomOf, capOf_f, zrep_one, List.length_replicate, putCells_len, bys_length, bysTakeL, cutL, List.length_take, List.length_drop, Int.toNat_natCast, decide_eq_true_eq, decide_eq_false_iff_not]; done)))
    repeat (refine (if_pos (AV.beq_self _)).trans ?_)
    rfl
  · have hC : (O.drop (A.toNat + 20)).length = O.length - (A.toNat + 20) := List.length_drop
    have hT : nO (a :: W).length (O.length - (w6 (A + 20)).toNat) = (a :: W).length + (O.length - (A.toNat + 20)) := by
      rw [hw]
      simp (disch := omega) only [nO, w6, wrapI64]
      omega
    have hOL : OUT.length = (a :: W).length + (O.length - (A.toNat + 20)) := by rw [hO, List.length_append, hC]
    have hn2 : (0 + (a :: W).length + (O.length - (w6 (A + 20)).toNat)) = OUT.length := by rw [hOL, hw]; omega
    refine .tup _ _ _ _ _ (.cons _ [some 7] [] _ _ _ _ [ownB OUT] [] (denP (l := OUT) (by decide) rfl ?_ ?_ ?_ ?_) (.cons _ [] [] _ _ _ _ [] [] (.flat _ _ (by rw [dAdr_B]; exact adrB_free)) (.cons _ [] [] _ _ _ _ [] [] (.flat _ _ rfl) (.nil _))))
    · rw [hT, hw]
      simp only [tk]
      rw [bysTakeL, cutL, List.take_of_length_le (by rw [hC]; exact Nat.le_refl _), cat2 (by rw [hC]) (by omega), hO]
    · rw [hT, hn2, hOL, hw]; simp only [roomOf]; omega
    · rw [hn2, hOL]; omega
    · rw [hn2, List.drop_zero, List.take_length]

theorem oyRunTF (O M W OUT : List UInt8) (a : UInt8) (A m : Int) (hl : O.length ≤ 60000) (hA : 14 ≤ A ∧ A ≤ 18) (hlen : A + 40 + 1 ≤ O.length) (hn : netV .u16 (netR O) = .tup [.int .i64 A, .int .u16 34525, .int .i64 0]) (hx : adr16 ((O.drop (A.toNat + 8)).take 16) 0 = dAdr true 150) (hy : adr16 ((O.drop (A.toNat + 24)).take 16) 0 = dAdr true m)
    (hp : byt O (A.toNat + 6) = 4) (hM : make6 (dAdr true 150) (dAdr true m) 4 ((O.length - A.toNat : Nat) - 40) = M) (he : M = (O.drop A.toNat).take 40) (h0 : byt O (A.toNat + 40) / 16 = 4) (hW : withR O 2048 = a :: W) (hLA : (a :: W).length = A.toNat) (hO : OUT = (a :: W) ++ O.drop (A.toNat + 40)) :
    ∃ v1 h1, Runs Try.prog 13 [slB 0 O] [farB O] v1 h1 ∧ ∃ ks, ∀ K, Den h1 1 K ks v1 (.tup [slB K OUT, .agg (dAdr true m), .bool true]) [ownB OUT] ∧ KsOk ks := by
  have hwi : w6 (A + 40) = A + 40 := wrapI64 (by omega)
  have hw : (w6 (A + 40)).toNat = A.toNat + 40 := by rw [hwi]; omega
  have h00 : 0 + (A.toNat + 40) * 1 + 0 = A.toNat + 40 := by omega
  have hpx : 0 + A.toNat * 1 + 6 = A.toNat + 6 := by omega
  have hpp : intV (bys O)[0 + A.toNat * 1 + 6]? = byt O (A.toNat + 6) := by rw [hpx]; simp
  have hb0 : intV (bys O)[A.toNat + 40]? = byt O (A.toNat + 40) := by simp
  have hb1 := byt_rr O (A.toNat + 40)
  have hw2 : w6 (((O.length - A.toNat : Nat) : Int) - 40) = (O.length - A.toNat : Nat) - 40 := wrapI64 (by omega)
  have hmk : makes6 (dAdr true 150) (dAdr true m) ((O.length - A.toNat : Nat) - 40) := by rw [dAdr_B, dAdr_B]; exact ⟨rfl, rfl, by omega, by omega⟩
  refine ⟨(AV.tup [AV.sl (some (7, 0)) (0 + (a :: W).length + (O.length - (w6 (A + 40)).toNat)) (roomOf (nO (a :: W).length (O.length - (w6 (A + 40)).toNat)) 0 0 false 0 false - (a :: W).length - (O.length - (w6 (A + 40)).toNat)) false, AV.agg (dAdr true m), AV.bool true]), (hOYTF12 O M W a A m), Runs.ofT0 (tOYOk (.tup [.int .i64 A, .int .u16 34525, .int .i64 0]) (.tup [.agg (dAdr true 150), .int .i64 0]) (.tup [.agg (dAdr true m), .int .i64 0]) M (a :: W)) (F := 100) (n := 6) (pr := [(17, .bool false), (37, .bool false), (49, .bool true), (54, .bool true)]) ?_, [some 7], fun K => ⟨?_, ksOk1 _⟩⟩
  · refine (nfOYTF O M W a A m _).trans ?_
    refine (if_pos (cdec_true.2 (sayNet (bOk_row rfl rfl rfl) (by show O.length ≤ _; omega) hn))).trans ?_
    refine (if_pos (by omega)).trans ?_
    refine (if_neg (by rw [decide_eq_true_eq]; omega)).trans ?_
    refine (if_pos ⟨by decide, by simp only [capOf_f]; omega⟩).trans ?_
    refine (if_pos (cdec_true.2 (sayFrom (bOk_cut (l := O) (L := (O.drop (A.toNat + 8)).take 16) rfl rfl (by omega) (by rw [show 0 + A.toNat * 1 + 8 = A.toNat + 8 by omega])) (.inl ⟨rfl, hx⟩)))).trans ?_
    refine (if_pos ⟨by decide, by simp only [capOf_f]; omega⟩).trans ?_
    refine (if_pos (cdec_true.2 (sayFrom (bOk_cut (l := O) (L := (O.drop (A.toNat + 24)).take 16) rfl rfl (by omega) (by rw [show 0 + A.toNat * 1 + 24 = A.toNat + 24 by omega])) (.inl ⟨rfl, hy⟩)))).trans ?_
    refine (if_pos ⟨by decide, by omega⟩).trans ?_
    refine (if_pos (by rw [hpx]; simp; omega)).trans ?_
    refine (if_pos (cdec_true.2 (say6Mk (cs := dAdr true 150) (ds := dAdr true m) (dAdr_wf _ _) (dAdr_wf _ _) (by rw [hpp, hp]; decide) (by rw [hw2]; exact hmk) (by rw [hw2, hpp, hp]; exact hM) rfl))).trans ?_
    refine (if_pos ⟨by decide, by simp only [capOf_f]; omega⟩).trans ?_
    refine (if_pos (cdec_true.2 (sayEq (l := M) (m := (O.drop A.toNat).take 40) (bOk_row rfl rfl rfl) (bOk_cut (l := O) rfl rfl (by omega) (by rw [show 0 + A.toNat * 1 + 0 = A.toNat by omega])) (decide_eq_true he)))).trans ?_
    refine (if_pos (AV.beq_self _)).trans ?_
    refine (if_pos (by rw [hwi]; simp; omega)).trans ?_
    refine (if_pos (by rw [hwi]; omega)).trans ?_
    refine (if_pos (by rw [hpp, hp]; decide)).trans ?_
    refine (if_pos ⟨by decide, by rw [hw]; omega⟩).trans ?_
    refine (if_pos (by rw [hw, h00]; simp; omega)).trans ?_
    refine (if_pos (by rw [hw, h00, hb0, Int.fdiv_eq_ediv_of_nonneg _ (by omega), h0]; decide)).trans ?_
    refine (if_pos (cdec_true.2 (sayWi (l := O) (bOk_row rfl rfl rfl) (by show O.length ≤ _; omega) (by decide) hW rfl))).trans ?_
    repeat (first | (refine (if_pos ?_).trans ?_; · (repeat' apply And.intro) <;> first | omega | (simp (disch := omega) only [iv, w6, nO, tk, intV, wrapI64, roomOf, capOf_f, zrep_one, List.length_replicate, putCells_len, bys_length, bysTakeL, cutL, List.length_take, List.length_drop, Int.toNat_natCast, decide_eq_true_eq, decide_eq_false_iff_not] <;> omega) | (simp (disch := omega) only [iv, w6, nO, tk, intV, wrapI64, roomOf, capOf_f, zrep_one, List.length_replicate, putCells_len, bys_length, bysTakeL, cutL, List.length_take, List.length_drop, Int.toNat_natCast, decide_eq_true_eq, decide_eq_false_iff_not]; done) | (simp; done)) | (refine (if_neg ?_).trans ?_; · first | omega | (simp (disch := omega) only [iv, w6, nO, tk, intV, wrapI64, roomOf, capOf_f, zrep_one, List.length_replicate, putCells_len, bys_length, bysTakeL, cutL, List.length_take, List.length_drop, Int.toNat_natCast, decide_eq_true_eq, decide_eq_false_iff_not] <;> omega) | (simp (disch := omega) only [iv, w6, nO, tk, intV, wrapI64, roomOf, capOf_f, zrep_one, List.length_replicate, putCells_len, bys_length, bysTakeL, cutL, List.length_take, List.length_drop, Int.toNat_natCast, decide_eq_true_eq, decide_eq_false_iff_not]; done)))
    repeat (refine (if_pos (AV.beq_self _)).trans ?_)
    rfl
  · have hC : (O.drop (A.toNat + 40)).length = O.length - (A.toNat + 40) := List.length_drop
    have hT : nO (a :: W).length (O.length - (w6 (A + 40)).toNat) = (a :: W).length + (O.length - (A.toNat + 40)) := by
      rw [hw]
      simp (disch := omega) only [nO, w6, wrapI64]
      omega
    have hOL : OUT.length = (a :: W).length + (O.length - (A.toNat + 40)) := by rw [hO, List.length_append, hC]
    have hn2 : (0 + (a :: W).length + (O.length - (w6 (A + 40)).toNat)) = OUT.length := by rw [hOL, hw]; omega
    refine .tup _ _ _ _ _ (.cons _ [some 7] [] _ _ _ _ [ownB OUT] [] (denP (l := OUT) (by decide) rfl ?_ ?_ ?_ ?_) (.cons _ [] [] _ _ _ _ [] [] (.flat _ _ (by rw [dAdr_B]; exact adrB_free)) (.cons _ [] [] _ _ _ _ [] [] (.flat _ _ rfl) (.nil _))))
    · rw [hT, hw]
      simp only [tk]
      rw [bysTakeL, cutL, List.take_of_length_le (by rw [hC]; exact Nat.le_refl _), cat2 (by rw [hC]) (by omega), hO]
    · rw [hT, hn2, hOL, hw]; simp only [roomOf]; omega
    · rw [hn2, hOL]; omega
    · rw [hn2, List.drop_zero, List.take_length]

theorem oyRunTT (O M W OUT : List UInt8) (a : UInt8) (A m : Int) (hl : O.length ≤ 60000) (hA : 14 ≤ A ∧ A ≤ 18) (hlen : A + 40 + 1 ≤ O.length) (hn : netV .u16 (netR O) = .tup [.int .i64 A, .int .u16 34525, .int .i64 0]) (hx : adr16 ((O.drop (A.toNat + 8)).take 16) 0 = dAdr true 150) (hy : adr16 ((O.drop (A.toNat + 24)).take 16) 0 = dAdr true m)
    (hp : byt O (A.toNat + 6) = 41) (hM : make6 (dAdr true 150) (dAdr true m) 41 ((O.length - A.toNat : Nat) - 40) = M) (he : M = (O.drop A.toNat).take 40) (h0 : byt O (A.toNat + 40) / 16 = 6) (hW : withR O 34525 = a :: W) (hLA : (a :: W).length = A.toNat) (hO : OUT = (a :: W) ++ O.drop (A.toNat + 40)) :
    ∃ v1 h1, Runs Try.prog 13 [slB 0 O] [farB O] v1 h1 ∧ ∃ ks, ∀ K, Den h1 1 K ks v1 (.tup [slB K OUT, .agg (dAdr true m), .bool true]) [ownB OUT] ∧ KsOk ks := by
  have hwi : w6 (A + 40) = A + 40 := wrapI64 (by omega)
  have hw : (w6 (A + 40)).toNat = A.toNat + 40 := by rw [hwi]; omega
  have h00 : 0 + (A.toNat + 40) * 1 + 0 = A.toNat + 40 := by omega
  have hpx : 0 + A.toNat * 1 + 6 = A.toNat + 6 := by omega
  have hpp : intV (bys O)[0 + A.toNat * 1 + 6]? = byt O (A.toNat + 6) := by rw [hpx]; simp
  have hb0 : intV (bys O)[A.toNat + 40]? = byt O (A.toNat + 40) := by simp
  have hb1 := byt_rr O (A.toNat + 40)
  have hw2 : w6 (((O.length - A.toNat : Nat) : Int) - 40) = (O.length - A.toNat : Nat) - 40 := wrapI64 (by omega)
  have hmk : makes6 (dAdr true 150) (dAdr true m) ((O.length - A.toNat : Nat) - 40) := by rw [dAdr_B, dAdr_B]; exact ⟨rfl, rfl, by omega, by omega⟩
  refine ⟨(AV.tup [AV.sl (some (7, 0)) (0 + (a :: W).length + (O.length - (w6 (A + 40)).toNat)) (roomOf (nO (a :: W).length (O.length - (w6 (A + 40)).toNat)) 0 0 false 0 false - (a :: W).length - (O.length - (w6 (A + 40)).toNat)) false, AV.agg (dAdr true m), AV.bool true]), (hOYTT12 O M W a A m), Runs.ofT0 (tOYOk (.tup [.int .i64 A, .int .u16 34525, .int .i64 0]) (.tup [.agg (dAdr true 150), .int .i64 0]) (.tup [.agg (dAdr true m), .int .i64 0]) M (a :: W)) (F := 100) (n := 6) (pr := [(17, .bool false), (37, .bool false), (49, .bool false), (59, .bool true), (64, .bool true)]) ?_, [some 7], fun K => ⟨?_, ksOk1 _⟩⟩
  · refine (nfOYTT O M W a A m _).trans ?_
    refine (if_pos (cdec_true.2 (sayNet (bOk_row rfl rfl rfl) (by show O.length ≤ _; omega) hn))).trans ?_
    refine (if_pos (by omega)).trans ?_
    refine (if_neg (by rw [decide_eq_true_eq]; omega)).trans ?_
    refine (if_pos ⟨by decide, by simp only [capOf_f]; omega⟩).trans ?_
    refine (if_pos (cdec_true.2 (sayFrom (bOk_cut (l := O) (L := (O.drop (A.toNat + 8)).take 16) rfl rfl (by omega) (by rw [show 0 + A.toNat * 1 + 8 = A.toNat + 8 by omega])) (.inl ⟨rfl, hx⟩)))).trans ?_
    refine (if_pos ⟨by decide, by simp only [capOf_f]; omega⟩).trans ?_
    refine (if_pos (cdec_true.2 (sayFrom (bOk_cut (l := O) (L := (O.drop (A.toNat + 24)).take 16) rfl rfl (by omega) (by rw [show 0 + A.toNat * 1 + 24 = A.toNat + 24 by omega])) (.inl ⟨rfl, hy⟩)))).trans ?_
    refine (if_pos ⟨by decide, by omega⟩).trans ?_
    refine (if_pos (by rw [hpx]; simp; omega)).trans ?_
    refine (if_pos (cdec_true.2 (say6Mk (cs := dAdr true 150) (ds := dAdr true m) (dAdr_wf _ _) (dAdr_wf _ _) (by rw [hpp, hp]; decide) (by rw [hw2]; exact hmk) (by rw [hw2, hpp, hp]; exact hM) rfl))).trans ?_
    refine (if_pos ⟨by decide, by simp only [capOf_f]; omega⟩).trans ?_
    refine (if_pos (cdec_true.2 (sayEq (l := M) (m := (O.drop A.toNat).take 40) (bOk_row rfl rfl rfl) (bOk_cut (l := O) rfl rfl (by omega) (by rw [show 0 + A.toNat * 1 + 0 = A.toNat by omega])) (decide_eq_true he)))).trans ?_
    refine (if_pos (AV.beq_self _)).trans ?_
    refine (if_pos (by rw [hwi]; simp; omega)).trans ?_
    refine (if_pos (by rw [hwi]; omega)).trans ?_
    refine (if_pos (by rw [hpp, hp]; decide)).trans ?_
    refine (if_pos (by rw [hpp, hp]; decide)).trans ?_
    refine (if_pos ⟨by decide, by rw [hw]; omega⟩).trans ?_
    refine (if_pos (by rw [hw, h00]; simp; omega)).trans ?_
    refine (if_pos (by rw [hw, h00, hb0, Int.fdiv_eq_ediv_of_nonneg _ (by omega), h0]; decide)).trans ?_
    refine (if_pos (cdec_true.2 (sayWi (l := O) (bOk_row rfl rfl rfl) (by show O.length ≤ _; omega) (by decide) hW rfl))).trans ?_
    repeat (first | (refine (if_pos ?_).trans ?_; · (repeat' apply And.intro) <;> first | omega | (simp (disch := omega) only [iv, w6, nO, tk, intV, wrapI64, roomOf, capOf_f, zrep_one, List.length_replicate, putCells_len, bys_length, bysTakeL, cutL, List.length_take, List.length_drop, Int.toNat_natCast, decide_eq_true_eq, decide_eq_false_iff_not] <;> omega) | (simp (disch := omega) only [iv, w6, nO, tk, intV, wrapI64, roomOf, capOf_f, zrep_one, List.length_replicate, putCells_len, bys_length, bysTakeL, cutL, List.length_take, List.length_drop, Int.toNat_natCast, decide_eq_true_eq, decide_eq_false_iff_not]; done) | (simp; done)) | (refine (if_neg ?_).trans ?_; · first | omega | (simp (disch := omega) only [iv, w6, nO, tk, intV, wrapI64, roomOf, capOf_f, zrep_one, List.length_replicate, putCells_len, bys_length, bysTakeL, cutL, List.length_take, List.length_drop, Int.toNat_natCast, decide_eq_true_eq, decide_eq_false_iff_not] <;> omega) | (simp (disch := omega) only [iv, w6, nO, tk, intV, wrapI64, roomOf, capOf_f, zrep_one, List.length_replicate, putCells_len, bys_length, bysTakeL, cutL, List.length_take, List.length_drop, Int.toNat_natCast, decide_eq_true_eq, decide_eq_false_iff_not]; done)))
    repeat (refine (if_pos (AV.beq_self _)).trans ?_)
    rfl
  · have hC : (O.drop (A.toNat + 40)).length = O.length - (A.toNat + 40) := List.length_drop
    have hT : nO (a :: W).length (O.length - (w6 (A + 40)).toNat) = (a :: W).length + (O.length - (A.toNat + 40)) := by
      rw [hw]
      simp (disch := omega) only [nO, w6, wrapI64]
      omega
    have hOL : OUT.length = (a :: W).length + (O.length - (A.toNat + 40)) := by rw [hO, List.length_append, hC]
    have hn2 : (0 + (a :: W).length + (O.length - (w6 (A + 40)).toNat)) = OUT.length := by rw [hOL, hw]; omega
    refine .tup _ _ _ _ _ (.cons _ [some 7] [] _ _ _ _ [ownB OUT] [] (denP (l := OUT) (by decide) rfl ?_ ?_ ?_ ?_) (.cons _ [] [] _ _ _ _ [] [] (.flat _ _ (by rw [dAdr_B]; exact adrB_free)) (.cons _ [] [] _ _ _ _ [] [] (.flat _ _ rfl) (.nil _))))
    · rw [hT, hw]
      simp only [tk]
      rw [bysTakeL, cutL, List.take_of_length_le (by rw [hC]; exact Nat.le_refl _), cat2 (by rw [hC]) (by omega), hO]
    · rw [hT, hn2, hOL, hw]; simp only [roomOf]; omega
    · rw [hn2, hOL]; omega
    · rw [hn2, List.drop_zero, List.take_length]

end Go.Proofs.Ytjkkhbeidhpghaa.L
