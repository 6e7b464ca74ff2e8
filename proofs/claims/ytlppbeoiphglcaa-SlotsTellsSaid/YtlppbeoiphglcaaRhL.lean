/- The reference's Shares: the run. -/
import Derived.Test.YtlppbeoiphglcaaRhK
set_option autoImplicit false
set_option maxRecDepth 100000
set_option linter.unusedVariables false
set_option linter.unusedSimpArgs false
namespace Go.Proofs.Ytlppbeoiphglcaa.L
open Go Go.Abs

theorem stepRh3 {P : PL} {n l : Int} (hc : chkP P = 0) (h0 : 0 ≤ n) (hn : n ≤ 64) (hp : 0 < P.length) {j : Nat} (hj : j ≤ 1000) (hl : 0 < l) (hl2 : l ≤ 1000) :
    qround Try.prog tRh 100 4 [(80, .bool true)] lsRh RH3 mRh3 (vRh3 P.length P.length l) (hRh (itP P) (intL (sit P n j).1) (intL (sit P n j).2)) = some (.norm, vRh3 P.length P.length (l - 1), hRh (itP P) (intL (sit P n (j + 1)).1) (intL (sit P n (j + 1)).2)) := by
  have hPl := chk_len hc
  obtain ⟨a, b⟩ := siter_len (qL P n, rL P n) j
  have hb := siter_bd (qL P n, rL P n) 1024 (qL_bd hc h0 hn hp) (by simpa using hp) (by simp) j
  change (sit P n j).1.length = _ at a
  change (sit P n j).2.length = _ at b
  change ∀ x ∈ (sit P n j).1, _ at hb
  simp only [qL_len, rL_len] at a b
  generalize hs : sit P n j = s at *
  have hs' : sit P n (j + 1) = sstep s := by rw [← hs]; rfl
  rw [hs']
  obtain ⟨q, r⟩ := s
  dsimp only at a b hb ⊢
  obtain ⟨B1, B2⟩ := bestI_lt (l := r) (by omega)
  have hr0 : rowOf (hRh3a0 (itP P) (intL q) (intL r) P.length P.length l) (AV.sl (some (2, 0)) P.length 0 false) = intL r := (rowL_blk (l := r) (h := hRh3a0 (itP P) (intL q) (intL r) P.length P.length l) (k := 2) (n := P.length) (r := 0) (e := false) rfl b.symm).2
  have hq : bestI r < q.length := by omega
  have hqb := hb _ (List.getElem_mem hq)
  have e1 : opq ((bestI r : Nat) : Int) = (bestI r : Int) := opq_eq _
  have e2 : intV (some (.int .i64 q[bestI r])) = q[bestI r] := rfl
  have e3 : IntKind.i64.wrap (q[bestI r] + 1) = q[bestI r] + 1 := wrapI64 (by omega)
  have e4 : IntKind.i64.wrap (l - 1) = l - 1 := wrapI64 (by omega)
  have e5 : sstep (q, r) = (q.set (bestI r) (q[bestI r] + 1), r.set (bestI r) (-1)) := by
    unfold sstep; simp only [List.getD_eq_getElem?_getD, List.getElem?_eq_getElem hq, Option.getD_some]
  refine (nfRh3a ..).trans ?_
  unfold hRh3a1
  simp only [hr0, ilOf_eq, e1, intL_at hq, e2, e3, intL_put hq, intL_put B1, e4]
  rw [e5]
  refine (if_pos (by simpa using hl)).trans ?_
  refine (if_pos (by simpa using hp)).trans ?_
  refine (if_pos (cdec_true.2 (saysRh4 b hp (by omega)))).trans ?_
  refine (if_pos (by omega)).trans ?_
  refine (if_pos rfl).trans ?_
  refine (if_pos (by omega)).trans ?_
  refine (if_pos ⟨by simp; omega, rfl⟩).trans ?_
  refine (if_pos (by omega)).trans ?_
  refine (if_pos ⟨by simp; omega, rfl⟩).trans ?_
  rfl
theorem runRhl {P : PL} {n : Int} (hl : P.length ≤ 1000000) (h : n < 0 ∨ 64 < n ∨ chkP P ≠ 0) : ∃ h', Runs Try.prog 16 [.sl (some (0, 0)) P.length 0 false, .int .i64 n] [.cells (itP P) 19 .far none] (.sl none 0 0 true) h' := by
  refine Runs.valT0 tRhOk (F := 100) (n := 4) (pr := [(23, .bool true)]) ?_
  refine (nfRhl ..).trans ?_
  obtain ⟨a, b⟩ := mb_ok (rowP_blk (P := P) (h := hRhl0 (itP P) P.length n) (k := 0) (n := P.length) (r := 0) (e := false) rfl rfl) hl
  refine (if_pos (cdec_true.2 a)).trans ?_
  rw [b]
  by_cases h2 : chkP P = 0
  · rw [decide_eq_true h2]
    refine (if_neg (by decide)).trans ?_
    by_cases h0 : n < 0
    · exact if_pos (decide_eq_true h0)
    refine (if_neg (by simpa using h0)).trans ?_
    exact if_pos (by simp; omega)
  · rw [decide_eq_false h2]
    exact if_pos rfl
theorem runRhm {P : PL} {n : Int} (h0 : 0 ≤ n) (hn : n ≤ 64) (hc : chkP P = 0) : ∃ R, Runs Try.prog 16 [.sl (some (0, 0)) P.length 0 false, .int .i64 n] [.cells (itP P) 19 .far none] (.sl (some (1, 0)) P.length 0 false) (hRh (itP P) (intL (shP P n)) R) := by
  have hl := chk_len hc
  have lp : loopsOf (bodyOf Try.prog 16) = [RH1, RH2, RH3] := by kernel_rfl
  have hsw : sumL ((P.map Prod.snd).take P.length) = sumW P := by rw [List.take_of_length_le (by simp)]; rfl
  have e2 : (qL P n).take P.length = qL P n := List.take_of_length_le (by simp)
  have e3 : (rL P n).take P.length = rL P n := List.take_of_length_le (by simp)
  have hle : leftS P n = n - sumL (qL P n) := rfl
  have k1 : True → ∃ k, GReach (roundG Try.prog (deepT Try.prog tRh 100 4) (lsT noT) RH1 mRh1) 1 k (vRh1 P.length n 0 0) [.cells (itP P) 19 .far none] (.exit 0) (vRh1 P.length n (sumW P) P.length) [.cells (itP P) 19 .far none] := by
    intro _
    refine loop_T (fun i => (vRh1 P.length n (sumL ((P.map Prod.snd).take i)) i, [.cells (itP P) 19 .far none])) (N := P.length) (by simp) (fun i hi => ⟨_, _, _, stepRh1 hc hi, Gc.refl⟩) ⟨[(27, .bool false)], _, _, (nfRh1s ..).trans (if_pos (by simp)), ?_⟩
    rw [hsw]; exact Gc.refl
  have k2 : True → ∃ vs2 h2, Pre 1 (vRh2z P.length n (sumW P) n 0) [.cells (itP P) 19 .far none] vs2 h2 ∧ ∃ k, GReach (roundG Try.prog (deepT Try.prog tRh 100 4) (lsT noT) RH2 mRh2) 1 k vs2 h2 (.exit 2) (vRh2 P.length P.length n (sumW P) (leftS P n) P.length) (hRh (itP P) (intL (qL P n)) (intL (rL P n))) := by
    intro _
    refine ⟨vRh2 P.length 0 n (sumW P) (n - sumL ((qL P n).take 0)) ((0 : Nat) : Int), hRh (itP P) (intL ((qL P n).take 0)) (intL ((rL P n).take 0)), ?_, loop_T (fun i => (vRh2 P.length i n (sumW P) (n - sumL ((qL P n).take i)) i, hRh (itP P) (intL ((qL P n).take i)) (intL ((rL P n).take i)))) (N := P.length) (by simp) (fun i hi => ⟨_, stepRh2 hc h0 hn hi⟩) ⟨[(41, .bool false)], _, _, (nfRh2s ..).trans (if_pos (by simp)), ?_⟩⟩
    · simp only [List.take_zero, sumL_nil, Int.sub_zero]
      refine Pre.void 1 _ _ [.sl (some (0, 0)) P.length 0 false, .int .i64 n, .int .i64 (sumW P), .sl (some (1, 0)) 0 0 false, .sl none 0 0 true, .int .i64 n, .int .i64 0] [.cells (itP P) 19 .far none, .cells [] 1 .own none] _ _ (.same _ _ _ (.same _ _ _ (.same _ _ _ (.void _ _ _ (NRs.refl _))))) (NBs.refl _) ?_
      exact Pre.nil1 1 (.same _ _ _ (.same _ _ _ (.same _ _ _ (.same _ _ _ (.void _ _ _ (NRs.refl _)))))) rfl
    · rw [e2, e3, hle]; exact Gc.refl
  by_cases hp : P = []
  · subst hp
    have hsh : shP [] n = [] := by unfold shP; rw [if_pos (.inr (.inr (.inr rfl)))]
    have k3 : True → ∃ k, GReach (roundG Try.prog (deepT Try.prog tRh 100 4) (lsT lsRh) RH3 mRh3) 3 k (vRh3 0 0 (leftS [] n)) (hRh (itP []) (intL (qL [] n)) (intL (rL [] n))) (.exit 4) (vRh3 0 0 (leftS [] n)) (hRh (itP []) (intL (qL [] n)) (intL (rL [] n))) := by
      intro _
      refine loop_T (fun _ => (vRh3 0 0 (leftS [] n), hRh (itP []) (intL (qL [] n)) (intL (rL [] n)))) (N := 0) (by simp) (fun j hj => absurd hj (Nat.not_lt_zero _)) ⟨[(80, .bool false)], _, _, (nfRh3s ..).trans ?_, Gc.refl⟩
      by_cases h : leftS [] n > 0
      · exact (if_pos (decide_eq_true h)).trans (if_pos (by simp))
      · exact if_neg (by simpa using h)
    rw [hsh]
    refine ⟨intL (rL [] n), ?_⟩
    refine Runs.ofT tRhOk (F := 100) (n := 4) (pr := [(23, .bool false)]) (three (k := 5) (k2 := 11) (k3 := 16) lp rfl rfl rfl (by decide) (by decide) (by decide) (fixC_T tRhOk (F := 100) (n := 4) (LS := noT) (noLoops (by kernel_rfl)) k1) (fixP_T tRhOk (F := 100) (n := 4) (LS := noT) (noLoops (by kernel_rfl)) k2) (fixC_T tRhOk (F := 100) (n := 4) (LS := lsRh) lsRhOk k3)) ?_
    refine (nfRhm ..).trans ?_
    obtain ⟨a, b⟩ := mb_ok (rowP_blk (P := []) (h := [ABlk.cells (itP []) 19 Md.far none]) (k := 0) (n := ([] : PL).length) (r := 0) (e := false) rfl rfl) (by simp)
    refine (if_pos (cdec_true.2 a)).trans ?_
    refine (if_neg (by unfold hRhm0; rw [b, decide_eq_true hc]; decide)).trans ?_
    refine (if_neg (by simpa using h0)).trans ?_
    refine (if_pos (by simpa using hn)).trans ?_
    refine (if_pos (cdec_true.2 ⟨trivial, rfl, rfl⟩)).trans ?_
    refine (if_pos (cdec_true.2 ⟨trivial, rfl, rfl⟩)).trans ?_
    refine (if_pos (cdec_true.2 ⟨trivial, rfl, rfl⟩)).trans ?_
    rfl
  have hp' : 0 < P.length := by cases P with | nil => exact absurd rfl hp | cons _ _ => simp
  have hsq := sumL_bd (qL_bd hc h0 hn hp')
  rw [qL_len] at hsq
  have k3 : True → ∃ k, GReach (roundG Try.prog (deepT Try.prog tRh 100 4) (lsT lsRh) RH3 mRh3) 3 k (vRh3 P.length P.length (leftS P n)) (hRh (itP P) (intL (qL P n)) (intL (rL P n))) (.exit 4) (vRh3 P.length P.length (leftS P n - (leftS P n).toNat)) (hRh (itP P) (intL (sit P n (leftS P n).toNat).1) (intL (sit P n (leftS P n).toNat).2)) := by
    intro _
    have g0 : leftS P n = leftS P n - ((0 : Nat) : Int) := by omega
    rw [show vRh3 P.length P.length (leftS P n) = vRh3 P.length P.length (leftS P n - ((0 : Nat) : Int)) from congrArg _ g0]
    refine loop_T (fun j => (vRh3 P.length P.length (leftS P n - (j : Nat)), hRh (itP P) (intL (sit P n j).1) (intL (sit P n j).2))) (N := (leftS P n).toNat) (by simp) (fun j hj => ⟨[(80, .bool true)], _, _, stepRh3 hc h0 hn hp' (by omega) (by omega) (by omega), ?_⟩) ⟨[(80, .bool false)], _, _, (nfRh3s ..).trans (if_neg (by simp; omega)), Gc.refl⟩
    simp only [show leftS P n - (j : Int) - 1 = leftS P n - ((j + 1 : Nat) : Int) from by omega]
    exact Gc.refl
  have hsh : shP P n = (sit P n (leftS P n).toNat).1 := shP_good h0 hn hc hp'
  rw [hsh]
  refine ⟨intL (sit P n (leftS P n).toNat).2, ?_⟩
  refine Runs.ofT tRhOk (F := 100) (n := 4) (pr := [(23, .bool false)]) (three (k := 5) (k2 := 11) (k3 := 16) lp rfl rfl rfl (by decide) (by decide) (by decide) (fixC_T tRhOk (F := 100) (n := 4) (LS := noT) (noLoops (by kernel_rfl)) k1) (fixP_T tRhOk (F := 100) (n := 4) (LS := noT) (noLoops (by kernel_rfl)) k2) (fixC_T tRhOk (F := 100) (n := 4) (LS := lsRh) lsRhOk k3)) ?_
  refine (nfRhm ..).trans ?_
  obtain ⟨a, b⟩ := mb_ok (rowP_blk (P := P) (h := [ABlk.cells (itP P) 19 Md.far none]) (k := 0) (n := P.length) (r := 0) (e := false) rfl rfl) (by omega)
  refine (if_pos (cdec_true.2 a)).trans ?_
  refine (if_neg (by unfold hRhm0; rw [b, decide_eq_true hc]; decide)).trans ?_
  refine (if_neg (by simpa using h0)).trans ?_
  refine (if_pos (by simpa using hn)).trans ?_
  refine (if_pos (cdec_true.2 ⟨trivial, rfl, rfl⟩)).trans ?_
  refine (if_pos (cdec_true.2 ⟨trivial, rfl, rfl⟩)).trans ?_
  refine (if_pos (cdec_true.2 ⟨trivial, rfl, rfl⟩)).trans ?_
  rfl

inductive RhR : List AV → AHeap → AV → AHeap → Prop
  | mk (P : PL) (n : Int) (h : AHeap) (a : AV) (g : rowP h a P) (hl : P.length ≤ 1000000) (L : List Int) (k : Nat) (hL : shP P n = L) (hk : k = L.length) : RhR [a, .int .i64 n] h (.sl (some (h.length, 0)) k 0 false) [.cells (intL L) 1 .own none]
theorem kRh : ∀ args h v new, RhR args h v new → ∃ args1 h1, Canons h 0 args args1 h1 ∧ ∃ v1 h1', Runs Try.prog 16 args1 h1 v1 h1' ∧ ∃ ks, Den h1' h1.length h.length ks v1 v new ∧ KsOk ks := by
  intro args h v new hR
  cases hR with
  | mk P n _ a g hl L k hL hk =>
  subst hL hk
  have ca : Canons h 0 [a, .int .i64 n] [.sl (some (0, 0)) P.length 0 false, .int .i64 n] [.cells (itP P) 19 .far none] := .cons _ _ _ _ _ _ _ (rowP_canon g 0) (.cons _ _ _ _ _ _ _ (.flat _ _ rfl) (.nil _))
  by_cases hb : n < 0 ∨ 64 < n ∨ chkP P ≠ 0
  · obtain ⟨h2, hr⟩ := runRhl hl hb
    have e : shP P n = [] := by
      unfold shP; rw [if_pos]
      rcases hb with h | h | h
      · exact .inl h
      · exact .inr (.inl h)
      · exact .inr (.inr (.inl h))
    rw [e]
    exact ⟨_, _, ca, _, _, hr, [none], .nil _ _ _, ksOk1 _⟩
  · have hb' : ¬ n < 0 ∧ ¬ 64 < n ∧ chkP P = 0 := ⟨fun h => hb (.inl h), fun h => hb (.inr (.inl h)), Classical.byContradiction fun h => hb (.inr (.inr h))⟩
    obtain ⟨b0, b1, b2⟩ := hb'
    obtain ⟨R, hr⟩ := runRhm (P := P) (n := n) (by omega) (by omega) b2
    have hlen : (shP P n).length = P.length := by
      by_cases hp : P = []
      · subst hp
        have : shP [] n = [] := by unfold shP; rw [if_pos (.inr (.inr (.inr rfl)))]
        rw [this]; rfl
      · exact shP_len (by omega) (by omega) b2 hp
    refine ⟨_, _, ca, _, _, hr, [some 1], ?_, ksOk1 _⟩
    have hd := Den.row (h1 := hRh (itP P) (intL (shP P n)) R) (n0 := 1) h.length 1 0 P.length 0 false (intL (shP P n)) 1 none (by decide) (by decide) rfl ⟨by simp [capOf], by simp [capOf]; omega⟩ (by intro h; exact ⟨by have : shP P n = [] := List.eq_nil_of_length_eq_zero (by omega); rw [this]; rfl, rfl⟩) (by rw [List.drop_zero, List.take_of_length_le (by simp; omega)]; exact frees_ints _)
    rw [List.drop_zero, List.take_of_length_le (by simp; omega)] at hd
    rw [← hlen] at hd ⊢
    exact hd
theorem sRh (L : List (Nat × AV × AHeap)) : SoundE Try.prog 16 (entF (eRel RhR L)) := relR_sound kRh L

end Go.Proofs.Ytlppbeoiphglcaa.L
