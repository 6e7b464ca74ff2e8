/- Good of a frame. -/
import Derived.Test.YtnchnjkakddhlaaRfGoodN
import Derived.Test.YtnchnjkakddhlaaGoodF
set_option autoImplicit false
set_option maxRecDepth 100000
set_option linter.unusedVariables false
set_option linter.unusedSimpArgs false
namespace Go.Proofs.Ytnchnjkakddhlaa.L
open Go Go.Abs

theorem zpF (l : List UInt8) (hl : l.length ≤ 1000000000000) : ∃ h1, Runs Try.prog 16 [slB 0 l] [zaC l] (.bool (zij l)) h1 := by
 by_cases hr : zb9 l = 0
 case neg =>
  have hg : zij l = false := by unfold zij; rw [decide_eq_false hr]; rfl
  rw [hg]
  refine Runs.valT0 (ziX (.tup [.agg zl1, .int .i64 (zb9 l)]) false) (F := 100) (n := 4) (pr := [(12, .bool false)]) ?_
  refine (zrX l (zb9 l) _).trans ?_
  refine (if_pos (zab.2 (zc8 (zam rfl rfl rfl) hl (zdg rfl hr)))).trans ?_
  refine (if_pos (by simp [hr])).trans ?_
  rfl
 obtain ⟨h0, h1, h2, hn, hp⟩ := zcY hr
 have hv := znA hr
 have hS : 0 ≤ (za7 l).1 + rdS l := by omega
 cases hk : zfm l
 · have hs : ze2 l = zhr (ipQ l) 12 := by unfold ze2; rw [hk]; rfl
   have hd : zd2 l = zhr (ipQ l) 16 := by unfold zd2; rw [hk]; rfl
   have hvv : zci l = (.tup [.agg (zaO false (za7 l).1 ((za7 l).1 + rdS l) ((za7 l).1 + rdE l) (rdP l) (zbx false (byt (ipQ l) 12) (byt (ipQ l) 13) (byt (ipQ l) 14) (byt (ipQ l) 15) 0 0 0 0 0 0 0 0 0 0 0 0) (zbx false (byt (ipQ l) 16) (byt (ipQ l) 17) (byt (ipQ l) 18) (byt (ipQ l) 19) 0 0 0 0 0 0 0 0 0 0 0 0) (zan (rdG l) 0) (zan (rdG l) 2) (zca (rdP l) (rdG l))), .int .i64 0]) := by rw [hv, hk, hs, hd]; rfl
   have hg : zij l = zfy (rdP l) (rdG l) (zhr (ipQ l) 12) (zhr (ipQ l) 16) := by unfold zij; rw [decide_eq_true hr, hs, hd]; rfl
   rw [hg]
   refine Runs.valT0 (ziX (.tup [.agg (zaO false (za7 l).1 ((za7 l).1 + rdS l) ((za7 l).1 + rdE l) (rdP l) (zbx false (byt (ipQ l) 12) (byt (ipQ l) 13) (byt (ipQ l) 14) (byt (ipQ l) 15) 0 0 0 0 0 0 0 0 0 0 0 0) (zbx false (byt (ipQ l) 16) (byt (ipQ l) 17) (byt (ipQ l) 18) (byt (ipQ l) 19) 0 0 0 0 0 0 0 0 0 0 0 0) (zan (rdG l) 0) (zan (rdG l) 2) (zca (rdP l) (rdG l))), .int .i64 0]) (zfy (rdP l) (rdG l) (zhr (ipQ l) 12) (zhr (ipQ l) 16))) (F := 100) (n := 4) (pr := [(12, .bool true)]) ?_
   refine (zmN l false false _ (za7 l).1 ((za7 l).1 + rdS l) ((za7 l).1 + rdE l) (rdP l) (zan (rdG l) 0) (zan (rdG l) 2) (zca (rdP l) (rdG l)) (byt (ipQ l) 12) (byt (ipQ l) 13) (byt (ipQ l) 14) (byt (ipQ l) 15) 0 0 0 0 0 0 0 0 0 0 0 0 (byt (ipQ l) 16) (byt (ipQ l) 17) (byt (ipQ l) 18) (byt (ipQ l) 19) 0 0 0 0 0 0 0 0 0 0 0 0 _).trans ?_
   have wc : zas (zhr (ipQ l) 12) = true := zk1 _ _
   have wd : zas (zhr (ipQ l) 16) = true := zk1 _ _
   refine (if_pos (zab.2 (zc8 (zam rfl rfl rfl) hl hvv))).trans ?_
   iterate 2 (refine (if_pos (by simp only [zad, zaz]; omega)).trans ?_)
   refine (if_pos (zab.2 (zob (cs := zhr (ipQ l) 12) (ds := zhr (ipQ l) 16) (l := rdG l) (zbf rfl rfl (by simp only [zad]; omega) (by simp only [zad]; exact hn)) wc wd (by simp only [zby, zad]; omega) hp rfl))).trans ?_
   rfl
 · have hs : ze2 l = zdm (ipQ l) 8 := by unfold ze2; rw [hk]; rfl
   have hd : zd2 l = zdm (ipQ l) 24 := by unfold zd2; rw [hk]; rfl
   have hvv : zci l = (.tup [.agg (zaO true (za7 l).1 ((za7 l).1 + rdS l) ((za7 l).1 + rdE l) (rdP l) (zbx true (byt (ipQ l) 8) (byt (ipQ l) 9) (byt (ipQ l) 10) (byt (ipQ l) 11) (byt (ipQ l) 12) (byt (ipQ l) 13) (byt (ipQ l) 14) (byt (ipQ l) 15) (byt (ipQ l) 16) (byt (ipQ l) 17) (byt (ipQ l) 18) (byt (ipQ l) 19) (byt (ipQ l) 20) (byt (ipQ l) 21) (byt (ipQ l) 22) (byt (ipQ l) 23)) (zbx true (byt (ipQ l) 24) (byt (ipQ l) 25) (byt (ipQ l) 26) (byt (ipQ l) 27) (byt (ipQ l) 28) (byt (ipQ l) 29) (byt (ipQ l) 30) (byt (ipQ l) 31) (byt (ipQ l) 32) (byt (ipQ l) 33) (byt (ipQ l) 34) (byt (ipQ l) 35) (byt (ipQ l) 36) (byt (ipQ l) 37) (byt (ipQ l) 38) (byt (ipQ l) 39)) (zan (rdG l) 0) (zan (rdG l) 2) (zca (rdP l) (rdG l))), .int .i64 0]) := by rw [hv, hk, hs, hd]; rfl
   have hg : zij l = zfy (rdP l) (rdG l) (zdm (ipQ l) 8) (zdm (ipQ l) 24) := by unfold zij; rw [decide_eq_true hr, hs, hd]; rfl
   rw [hg]
   refine Runs.valT0 (ziX (.tup [.agg (zaO true (za7 l).1 ((za7 l).1 + rdS l) ((za7 l).1 + rdE l) (rdP l) (zbx true (byt (ipQ l) 8) (byt (ipQ l) 9) (byt (ipQ l) 10) (byt (ipQ l) 11) (byt (ipQ l) 12) (byt (ipQ l) 13) (byt (ipQ l) 14) (byt (ipQ l) 15) (byt (ipQ l) 16) (byt (ipQ l) 17) (byt (ipQ l) 18) (byt (ipQ l) 19) (byt (ipQ l) 20) (byt (ipQ l) 21) (byt (ipQ l) 22) (byt (ipQ l) 23)) (zbx true (byt (ipQ l) 24) (byt (ipQ l) 25) (byt (ipQ l) 26) (byt (ipQ l) 27) (byt (ipQ l) 28) (byt (ipQ l) 29) (byt (ipQ l) 30) (byt (ipQ l) 31) (byt (ipQ l) 32) (byt (ipQ l) 33) (byt (ipQ l) 34) (byt (ipQ l) 35) (byt (ipQ l) 36) (byt (ipQ l) 37) (byt (ipQ l) 38) (byt (ipQ l) 39)) (zan (rdG l) 0) (zan (rdG l) 2) (zca (rdP l) (rdG l))), .int .i64 0]) (zfy (rdP l) (rdG l) (zdm (ipQ l) 8) (zdm (ipQ l) 24))) (F := 100) (n := 4) (pr := [(12, .bool true)]) ?_
   refine (zmN l true true _ (za7 l).1 ((za7 l).1 + rdS l) ((za7 l).1 + rdE l) (rdP l) (zan (rdG l) 0) (zan (rdG l) 2) (zca (rdP l) (rdG l)) (byt (ipQ l) 8) (byt (ipQ l) 9) (byt (ipQ l) 10) (byt (ipQ l) 11) (byt (ipQ l) 12) (byt (ipQ l) 13) (byt (ipQ l) 14) (byt (ipQ l) 15) (byt (ipQ l) 16) (byt (ipQ l) 17) (byt (ipQ l) 18) (byt (ipQ l) 19) (byt (ipQ l) 20) (byt (ipQ l) 21) (byt (ipQ l) 22) (byt (ipQ l) 23) (byt (ipQ l) 24) (byt (ipQ l) 25) (byt (ipQ l) 26) (byt (ipQ l) 27) (byt (ipQ l) 28) (byt (ipQ l) 29) (byt (ipQ l) 30) (byt (ipQ l) 31) (byt (ipQ l) 32) (byt (ipQ l) 33) (byt (ipQ l) 34) (byt (ipQ l) 35) (byt (ipQ l) 36) (byt (ipQ l) 37) (byt (ipQ l) 38) (byt (ipQ l) 39) _).trans ?_
   have wc : zas (zdm (ipQ l) 8) = true := ziz _ _
   have wd : zas (zdm (ipQ l) 24) = true := ziz _ _
   refine (if_pos (zab.2 (zc8 (zam rfl rfl rfl) hl hvv))).trans ?_
   iterate 2 (refine (if_pos (by simp only [zad, zaz]; omega)).trans ?_)
   refine (if_pos (zab.2 (zob (cs := zdm (ipQ l) 8) (ds := zdm (ipQ l) 24) (l := rdG l) (zbf rfl rfl (by simp only [zad]; omega) (by simp only [zad]; exact hn)) wc wd (by simp only [zby, zad]; omega) hp rfl))).trans ?_
   rfl

theorem zxt : SoundE Try.prog 16 (zbj zh9) := by
 refine zax fun args h v h' hg => ?_
 unfold zh9 at hg
 split at hg
 · rename_i b
   simp only [Option.some.injEq, Prod.mk.injEq, Bool.and_eq_true, decide_eq_true_eq] at hg
   obtain ⟨⟨hb, hn⟩, rfl, rfl⟩ := hg
   rw [← zbt hb] at hn
   exact ⟨rfl, rfl, [slB 0 (bOf h b)], [zaC (bOf h b)], .cons _ _ _ _ _ _ _ (zaJ hb 0) (.nil _), zpF _ hn⟩
 · simp at hg

end Go.Proofs.Ytnchnjkakddhlaa.L
