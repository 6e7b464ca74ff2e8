/- Good of a frame. -/
import Derived.Test.YthbneddbigclfaaFGoodN
import Derived.Test.YthbneddbigclfaaGoodF
set_option autoImplicit false
set_option maxRecDepth 100000
set_option linter.unusedVariables false
set_option linter.unusedSimpArgs false
namespace Go.Proofs.Ythbneddbigclfaa.L
open Go Go.Abs

theorem walkFGood (l : List UInt8) (hl : l.length ≤ 1000000000000) : ∃ h1, Runs Try.prog 13 [slB 0 l] [farB l] (.bool (goodF l)) h1 := by
  by_cases hr : readR l = 0
  case neg =>
    have hg : goodF l = false := by unfold goodF; rw [decide_eq_false hr]; rfl
    rw [hg]
    refine Runs.valT0 (tFGoodOk (.tup [.agg view0, .int .i64 (readR l)]) false) (F := 100) (n := 4) (pr := [(12, .bool false)]) ?_
    refine (nfFGoodE l (readR l) _).trans ?_
    refine (if_pos (cdec_true.2 (sayRead (bOk_row rfl rfl rfl) hl (vRead_N rfl hr)))).trans ?_
    refine (if_pos (by simp [hr])).trans ?_
    rfl
  obtain ⟨h0, h1, h2, hn, hp⟩ := good_facts hr
  have hv := vRead_Y hr
  have hS : 0 ≤ (netR l).1 + rdS l := by omega
  cases hk : isV6 l
  · have hs : rdSrc l = adr4 (ipQ l) 12 := by unfold rdSrc; rw [hk]; rfl
    have hd : rdDst l = adr4 (ipQ l) 16 := by unfold rdDst; rw [hk]; rfl
    have hvv : vRead l = (.tup [.agg (viewOf false (netR l).1 ((netR l).1 + rdS l) ((netR l).1 + rdE l) (rdP l) (adrV false (byt (ipQ l) 12) (byt (ipQ l) 13) (byt (ipQ l) 14) (byt (ipQ l) 15) 0 0 0 0 0 0 0 0 0 0 0 0) (adrV false (byt (ipQ l) 16) (byt (ipQ l) 17) (byt (ipQ l) 18) (byt (ipQ l) 19) 0 0 0 0 0 0 0 0 0 0 0 0) (word (rdG l) 0) (word (rdG l) 2) (segF (rdP l) (rdG l))), .int .i64 0]) := by rw [hv, hk, hs, hd]; rfl
    have hg : goodF l = goodS (rdP l) (rdG l) (adr4 (ipQ l) 12) (adr4 (ipQ l) 16) := by unfold goodF; rw [decide_eq_true hr, hs, hd]; rfl
    rw [hg]
    refine Runs.valT0 (tFGoodOk (.tup [.agg (viewOf false (netR l).1 ((netR l).1 + rdS l) ((netR l).1 + rdE l) (rdP l) (adrV false (byt (ipQ l) 12) (byt (ipQ l) 13) (byt (ipQ l) 14) (byt (ipQ l) 15) 0 0 0 0 0 0 0 0 0 0 0 0) (adrV false (byt (ipQ l) 16) (byt (ipQ l) 17) (byt (ipQ l) 18) (byt (ipQ l) 19) 0 0 0 0 0 0 0 0 0 0 0 0) (word (rdG l) 0) (word (rdG l) 2) (segF (rdP l) (rdG l))), .int .i64 0]) (goodS (rdP l) (rdG l) (adr4 (ipQ l) 12) (adr4 (ipQ l) 16))) (F := 100) (n := 4) (pr := [(12, .bool true)]) ?_
    refine (nfFGoodA l false false _ (netR l).1 ((netR l).1 + rdS l) ((netR l).1 + rdE l) (rdP l) (word (rdG l) 0) (word (rdG l) 2) (segF (rdP l) (rdG l)) (byt (ipQ l) 12) (byt (ipQ l) 13) (byt (ipQ l) 14) (byt (ipQ l) 15) 0 0 0 0 0 0 0 0 0 0 0 0 (byt (ipQ l) 16) (byt (ipQ l) 17) (byt (ipQ l) 18) (byt (ipQ l) 19) 0 0 0 0 0 0 0 0 0 0 0 0 _).trans ?_
    have wc : adrWf (adr4 (ipQ l) 12) = true := adr4_wf _ _
    have wd : adrWf (adr4 (ipQ l) 16) = true := adr4_wf _ _
    refine (if_pos (cdec_true.2 (sayRead (bOk_row rfl rfl rfl) hl hvv))).trans ?_
    iterate 2 (refine (if_pos (by simp only [intV, capOf_f]; omega)).trans ?_)
    refine (if_pos (cdec_true.2 (sayGoodS (cs := adr4 (ipQ l) 12) (ds := adr4 (ipQ l) 16) (l := rdG l) (bOk_cut rfl rfl (by simp only [intV]; omega) (by simp only [intV]; exact hn)) wc wd (by simp only [nOf_sl, intV]; omega) hp rfl))).trans ?_
    rfl
  · have hs : rdSrc l = adr16 (ipQ l) 8 := by unfold rdSrc; rw [hk]; rfl
    have hd : rdDst l = adr16 (ipQ l) 24 := by unfold rdDst; rw [hk]; rfl
    have hvv : vRead l = (.tup [.agg (viewOf true (netR l).1 ((netR l).1 + rdS l) ((netR l).1 + rdE l) (rdP l) (adrV true (byt (ipQ l) 8) (byt (ipQ l) 9) (byt (ipQ l) 10) (byt (ipQ l) 11) (byt (ipQ l) 12) (byt (ipQ l) 13) (byt (ipQ l) 14) (byt (ipQ l) 15) (byt (ipQ l) 16) (byt (ipQ l) 17) (byt (ipQ l) 18) (byt (ipQ l) 19) (byt (ipQ l) 20) (byt (ipQ l) 21) (byt (ipQ l) 22) (byt (ipQ l) 23)) (adrV true (byt (ipQ l) 24) (byt (ipQ l) 25) (byt (ipQ l) 26) (byt (ipQ l) 27) (byt (ipQ l) 28) (byt (ipQ l) 29) (byt (ipQ l) 30) (byt (ipQ l) 31) (byt (ipQ l) 32) (byt (ipQ l) 33) (byt (ipQ l) 34) (byt (ipQ l) 35) (byt (ipQ l) 36) (byt (ipQ l) 37) (byt (ipQ l) 38) (byt (ipQ l) 39)) (word (rdG l) 0) (word (rdG l) 2) (segF (rdP l) (rdG l))), .int .i64 0]) := by rw [hv, hk, hs, hd]; rfl
    have hg : goodF l = goodS (rdP l) (rdG l) (adr16 (ipQ l) 8) (adr16 (ipQ l) 24) := by unfold goodF; rw [decide_eq_true hr, hs, hd]; rfl
    rw [hg]
    refine Runs.valT0 (tFGoodOk (.tup [.agg (viewOf true (netR l).1 ((netR l).1 + rdS l) ((netR l).1 + rdE l) (rdP l) (adrV true (byt (ipQ l) 8) (byt (ipQ l) 9) (byt (ipQ l) 10) (byt (ipQ l) 11) (byt (ipQ l) 12) (byt (ipQ l) 13) (byt (ipQ l) 14) (byt (ipQ l) 15) (byt (ipQ l) 16) (byt (ipQ l) 17) (byt (ipQ l) 18) (byt (ipQ l) 19) (byt (ipQ l) 20) (byt (ipQ l) 21) (byt (ipQ l) 22) (byt (ipQ l) 23)) (adrV true (byt (ipQ l) 24) (byt (ipQ l) 25) (byt (ipQ l) 26) (byt (ipQ l) 27) (byt (ipQ l) 28) (byt (ipQ l) 29) (byt (ipQ l) 30) (byt (ipQ l) 31) (byt (ipQ l) 32) (byt (ipQ l) 33) (byt (ipQ l) 34) (byt (ipQ l) 35) (byt (ipQ l) 36) (byt (ipQ l) 37) (byt (ipQ l) 38) (byt (ipQ l) 39)) (word (rdG l) 0) (word (rdG l) 2) (segF (rdP l) (rdG l))), .int .i64 0]) (goodS (rdP l) (rdG l) (adr16 (ipQ l) 8) (adr16 (ipQ l) 24))) (F := 100) (n := 4) (pr := [(12, .bool true)]) ?_
    refine (nfFGoodA l true true _ (netR l).1 ((netR l).1 + rdS l) ((netR l).1 + rdE l) (rdP l) (word (rdG l) 0) (word (rdG l) 2) (segF (rdP l) (rdG l)) (byt (ipQ l) 8) (byt (ipQ l) 9) (byt (ipQ l) 10) (byt (ipQ l) 11) (byt (ipQ l) 12) (byt (ipQ l) 13) (byt (ipQ l) 14) (byt (ipQ l) 15) (byt (ipQ l) 16) (byt (ipQ l) 17) (byt (ipQ l) 18) (byt (ipQ l) 19) (byt (ipQ l) 20) (byt (ipQ l) 21) (byt (ipQ l) 22) (byt (ipQ l) 23) (byt (ipQ l) 24) (byt (ipQ l) 25) (byt (ipQ l) 26) (byt (ipQ l) 27) (byt (ipQ l) 28) (byt (ipQ l) 29) (byt (ipQ l) 30) (byt (ipQ l) 31) (byt (ipQ l) 32) (byt (ipQ l) 33) (byt (ipQ l) 34) (byt (ipQ l) 35) (byt (ipQ l) 36) (byt (ipQ l) 37) (byt (ipQ l) 38) (byt (ipQ l) 39) _).trans ?_
    have wc : adrWf (adr16 (ipQ l) 8) = true := adr16_wf _ _
    have wd : adrWf (adr16 (ipQ l) 24) = true := adr16_wf _ _
    refine (if_pos (cdec_true.2 (sayRead (bOk_row rfl rfl rfl) hl hvv))).trans ?_
    iterate 2 (refine (if_pos (by simp only [intV, capOf_f]; omega)).trans ?_)
    refine (if_pos (cdec_true.2 (sayGoodS (cs := adr16 (ipQ l) 8) (ds := adr16 (ipQ l) 24) (l := rdG l) (bOk_cut rfl rfl (by simp only [intV]; omega) (by simp only [intV]; exact hn)) wc wd (by simp only [nOf_sl, intV]; omega) hp rfl))).trans ?_
    rfl

theorem sFGood : SoundE Try.prog 13 (entF eGoodF) := by
  refine canonV_sound fun args h v h' hg => ?_
  unfold eGoodF at hg
  split at hg
  · rename_i b
    simp only [Option.some.injEq, Prod.mk.injEq, Bool.and_eq_true, decide_eq_true_eq] at hg
    obtain ⟨⟨hb, hn⟩, rfl, rfl⟩ := hg
    rw [← bOk_len hb] at hn
    exact ⟨rfl, rfl, [slB 0 (bOf h b)], [farB (bOf h b)], .cons _ _ _ _ _ _ _ (bOk_canon hb 0) (.nil _), walkFGood _ hn⟩
  · simp at hg

end Go.Proofs.Ythbneddbigclfaa.L
