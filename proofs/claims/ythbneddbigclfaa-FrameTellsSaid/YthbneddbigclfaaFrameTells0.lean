/- FrameTells' run. -/
import Derived.Test.YthbneddbigclfaaFrameTellsN
set_option autoImplicit false
set_option maxRecDepth 100000
set_option linter.unusedVariables false
set_option linter.unusedSimpArgs false
namespace Go.Proofs.Ythbneddbigclfaa.L
open Go Go.Abs

theorem view_lit (l : List UInt8) : ∃ (vv bx by' : Bool) (A S E p sp dp fl r : Int) (f g : Nat → Int), vRead l = vw8 vv bx by' A S E p sp dp fl r f g := by
  have key : ∀ (vv : Bool) (A S E p sp dp fl r : Int) (X Y : List AV), adrWf X = true → adrWf Y = true → ∃ (bx by' : Bool) (f g : Nat → Int), AV.tup [.agg (viewOf vv A S E p X Y sp dp fl), .int .i64 r] = vw8 vv bx by' A S E p sp dp fl r f g := by
    intro vv A S E p sp dp fl r X Y hX hY
    obtain ⟨b, x0, x1, x2, x3, x4, x5, x6, x7, x8, x9, x10, x11, x12, x13, x14, x15, hx⟩ := adrWf_lit hX
    obtain ⟨c, y0, y1, y2, y3, y4, y5, y6, y7, y8, y9, y10, y11, y12, y13, y14, y15, hy⟩ := adrWf_lit hY
    refine ⟨b, c, fun i => [x0, x1, x2, x3, x4, x5, x6, x7, x8, x9, x10, x11, x12, x13, x14, x15].getD i 0, fun i => [y0, y1, y2, y3, y4, y5, y6, y7, y8, y9, y10, y11, y12, y13, y14, y15].getD i 0, ?_⟩
    have hx' := hx; have hy' := hy
    first | (rw [hx, hy]; rfl) | (rw [hx.1, hy.1]; rfl)
  by_cases hr : readR l = 0
  · obtain ⟨b, c, f, g, h⟩ := key (isV6 l) (netR l).1 ((netR l).1 + rdS l) ((netR l).1 + rdE l) (rdP l) (word (rdG l) 0) (word (rdG l) 2) (segF (rdP l) (rdG l)) 0 (rdSrc l) (rdDst l) (by unfold rdSrc; split; exact adr16_wf _ _; exact adr4_wf _ _) (by unfold rdDst; split; exact adr16_wf _ _; exact adr4_wf _ _)
    exact ⟨_, b, c, _, _, _, _, _, _, _, _, f, g, (vRead_Y hr).trans h⟩
  · exact ⟨false, false, false, 0, 0, 0, 0, 0, 0, 0, readR l, fun _ => 0, fun _ => 0, (vRead_N rfl hr).trans rfl⟩
theorem lyC_take : ∀ (ps : List (List UInt8 × Int)) (j : Nat), (lyC ps).take (j * 2) = lyC (ps.take j)
  | [], j => by simp [lyC]
  | p :: ps, 0 => by simp [lyC]
  | p :: ps, j + 1 => by
    rw [show (j + 1) * 2 = j * 2 + 1 + 1 by omega]
    simp only [lyC, List.take_succ_cons, lyC_take ps j]
theorem runFrameTells (l : List UInt8) (most : Int) (hl : l.length ≤ maxLen) (hm : -9223372036854775808 ≤ most ∧ most < 9223372036854775808) : ∃ h', Runs Try.prog 3 [slB 0 l, .int .i64 most] [farB l] (.bool true) h' := by
  by_cases h : l.length ≤ 3000
  case neg =>
    refine Runs.valT0 (tFTOk .nilFn false [] [] 0 0) (F := 100) (n := 4) (pr := [(13, .bool true)]) ?_
    refine (nfFTL most l _).trans ?_
    refine (if_pos (decide_eq_true (by omega))).trans ?_
    rfl
  obtain ⟨vv, bx, by', A, S, E, p, sp, dp, fl, r, f, g, hv⟩ := view_lit l
  have hk : 0 ≤ most % 6 := by omega
  obtain ⟨N, hN⟩ : ∃ N, (lyP l).length = N := ⟨_, rfl⟩
  obtain ⟨M, hM⟩ : ∃ M, (namP l (most % 6)).length = M := ⟨_, rfl⟩
  have h4 := lyP_le l
  have hnk : namP l (most % 6) = (lyP l).take (most % 6).toNat := by unfold namP; rw [if_neg (by omega)]
  have hn1 : namP l (-1) = lyP l := by unfold namP; rw [if_pos (by decide)]
  have hMm : M = min (most % 6).toNat N := by rw [← hM, hnk, List.length_take, hN]
  have hmn : (if false = true then (if (N : Int) > most % 6 then (N : Int) else most % 6) else if (N : Int) < most % 6 then (N : Int) else most % 6) = (M : Int) := by
    rw [if_neg (by simp)]; split <;> omega
  have htk : (lyC (lyP l)).take (M * 2) = lyC (namP l (most % 6)) := by
    rw [lyC_take, hnk, hMm, ← hN, ← List.take_take, List.take_length]
  refine Runs.valT0 (tFTOk (vw8 vv bx by' A S E p sp dp fl r f g) (goodF l) (lyC (lyP l)) (lyC (namP l (most % 6))) N M) (F := 100) (n := 4) (pr := [(13, .bool false), (28, .int .i64 (most % 6)), (32, .bool true), (37, .bool true), (44, .bool true)]) ?_
  refine (nfFT vv bx by' (goodF l) A S E p sp dp fl r most (most % 6) f g l (lyC (lyP l)) (lyC (namP l (most % 6))) N M _).trans ?_
  refine (if_pos (decide_eq_false (by omega))).trans ?_
  refine (if_pos (cdec_true.2 (sayRead (bOk_row rfl rfl rfl) (by show l.length ≤ _; omega) hv))).trans ?_
  refine (if_pos (cdec_true.2 (sayRead (bOk_row rfl rfl rfl) (by show l.length ≤ _; omega) hv))).trans ?_
  refine (if_pos (cdec_true.2 (LayR.mk l _ _ _ N _ (bOk_row rfl rfl rfl) h rfl hN rfl))).trans ?_
  refine (if_pos ⟨rfl, rfl⟩).trans ?_
  refine (if_pos (by simp)).trans ?_
  refine (if_pos (beq_self_eq_true _)).trans ?_
  refine (if_pos (cdec_true.2 (sayGood (bOk_row rfl rfl rfl) (by show l.length ≤ _; omega) rfl))).trans ?_
  refine (if_pos (cdec_true.2 (sayGood (bOk_row rfl rfl rfl) (by show l.length ≤ _; omega) rfl))).trans ?_
  refine (if_pos (beq_self_eq_true _)).trans ?_
  refine (if_pos (cdec_true.2 (NamR.mk l (-1) _ _ _ N _ (bOk_row rfl rfl rfl) h rfl (by rw [hn1]; exact hN) (by rw [hn1])))).trans ?_
  refine (if_pos (cdec_true.2 (SamR.mk (lyP l) _ 4 3 N 0 0 false false _ _ _ _ _ _ h4 hN rfl rfl (by rw [lyC_take, ← hN, List.take_length]) (by rw [lyC_take, ← hN, List.take_length])))).trans ?_
  refine (if_pos (cdec_true.2 (NamR.mk l (most % 6) _ _ _ M _ (bOk_row rfl rfl rfl) h rfl hM rfl))).trans ?_
  refine (if_pos (by rw [hmn, capOf_f]; omega)).trans ?_
  refine (if_pos (cdec_true.2 (by rw [hmn]; exact SamR.mk (namP l (most % 6)) _ 5 3 M 0 _ false _ _ _ _ _ _ _ (by rw [hM]; omega) hM rfl rfl (by rw [lyC_take, ← hM, List.take_length]) htk))).trans ?_
  refine (if_pos (AV.beq_self _)).trans ?_
  rfl

end Go.Proofs.Ythbneddbigclfaa.L
