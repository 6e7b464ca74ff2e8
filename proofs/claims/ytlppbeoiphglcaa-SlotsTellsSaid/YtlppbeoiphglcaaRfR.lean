/- The reference's Fill: the run, and its contract. -/
import Derived.Test.YtlppbeoiphglcaaRfK4
import Derived.Test.YtlppbeoiphglcaaFlR
set_option autoImplicit false
set_option maxRecDepth 100000
set_option linter.unusedVariables false
set_option linter.unusedSimpArgs false
namespace Go.Proofs.Ytlppbeoiphglcaa.L
open Go Go.Abs

variable {P : PL} {D : List DipC}
theorem fl1_nil (S : List Int) (n : Nat) : ∀ i, fl1 P [] S n i = (S, List.replicate n zD, List.range i)
  | 0 => rfl
  | i + 1 => by
    rw [show fl1 P [] S n (i + 1) = step1 P [] i (fl1 P [] S n i) from rfl, fl1_nil S n i]
    unfold step1
    rw [if_neg (by simp), List.range_succ]
theorem runRfm {n : Nat} (h1 : 1 ≤ n) (hn : n ≤ 64) (hc : chkP P = 0) (hp : 0 < P.length) (hD : D = [] ∨ D.length = n) : ∃ L2 K2, Runs Try.prog 11 [.sl (some (0, 0)) D.length 0 false, .sl (some (1, 0)) P.length 0 false, .int .i64 n] [.cells (dipsC D) 18 .far none, .cells (itP P) 19 .far none] (.tup [.sl (some (3, 0)) n 0 false, .int .i64 0]) (hRf (dipsC D) (itP P) L2 (dipsC (flX P D (shP P n) n)) K2) := by
  have hl := chk_len hc
  have lp : loopsOf (bodyOf Try.prog 11) = [RF1, RF2] := by kernel_rfl
  have hpe : P ≠ [] := by rintro rfl; simp at hp
  have hSl : (shP P n).length = P.length := shP_len (by omega) (by omega) hc hpe
  have hSn := shP_nonneg (P := P) (n := n) (by omega) (by omega) hc hp
  have hSs := shP_sum (P := P) (n := n) (by omega) (by omega) hc hp
  generalize hS : shP P n = S at *
  have J1 := fl1_inv (D := D) hSl hSn hSs
  have k1 : True → ∃ k, GReach (roundG Try.prog (deepT Try.prog tRfL 100 4) (lsT noT) RF1 mRf1) 5 k (vRf1 D.length P.length n P.length 0) (hRf (dipsC D) (itP P) (intL S) (zrep n dipZ) (zrep n [.bool false])) (.exit 0) (vRf1 D.length P.length n P.length D.length) (hRf (dipsC D) (itP P) (intL (fl1 P D S n n).1) (dipsC (fl1 P D S n n).2.1) (kpL n fun x => !decide (x ∈ (fl1 P D S n n).2.2))) := by
    intro _
    rw [zrep_dips, zrep_kp]
    by_cases hd : D = []
    · subst hd
      rw [fl1_nil]
      have e : (kpL n fun x => !decide (x ∈ List.range n)) = kpL n fun _ => false := kpL_congr fun x hx => by simp [hx]
      rw [e]
      exact loop_T (fun _ => (vRf1 ([] : List DipC).length P.length n P.length 0, hRf (dipsC []) (itP P) (intL S) (dipsC (List.replicate n zD)) (kpL n fun _ => false))) (N := 0) (by simp) (fun j hj => absurd hj (Nat.not_lt_zero _)) ⟨[(50, .bool false)], _, _, (nfRf1s ..).trans (if_pos (by simp)), Gc.refl⟩
    have hDn : D.length = n := hD.resolve_left hd
    have e0 : (kpL n fun _ => false) = kpL n (kpF 0 (fl1 P D S n 0)) := kpL_congr fun x hx => by unfold kpF; simp
    have e1 : (kpL n fun x => !decide (x ∈ (fl1 P D S n n).2.2)) = kpL n (kpF n (fl1 P D S n n)) := kpL_congr fun x hx => by unfold kpF; simp [hx]
    rw [e0, e1]
    refine loop_T (fun i => stRf1 P D n (fl1 P D S n i) i) (N := n) (by simp) (fun i hi => ?_) ⟨[(50, .bool false)], _, _, (nfRf1s ..).trans (if_pos (by simp; omega)), ?_⟩
    · obtain ⟨pr, h⟩ := stepRf1 (J1 i (by omega)) hn hl hDn hi
      exact ⟨pr, _, _, h, Gc.refl⟩
    · rw [hDn]; exact Gc.refl
  have k2 : True → ∃ k, GReach (roundG Try.prog (deepT Try.prog tRfL 100 4) (lsT lsRf) RF2 mRf2) 5 k (vRf2 P.length n P.length 0) (hRf (dipsC D) (itP P) (intL (fl1 P D S n n).1) (dipsC (fl1 P D S n n).2.1) (kpL n fun x => !decide (x ∈ (fl1 P D S n n).2.2))) (.exit 2) (vRf2 P.length n P.length n) (hRf (dipsC D) (itP P) (intL (fl2 P D S n (jQ P D S n n)).1) (dipsC (fl2 P D S n (jQ P D S n n)).2.1) (kpL n fun x => !decide (x ∈ (fl1 P D S n n).2.2.drop (jQ P D S n n)))) := by
    intro _
    refine loop_T (fun i => stRf2 P D S n i) (N := n) (by simp) (fun i hi => ⟨[(86, .bool true)], _, _, ?_, Gc.refl⟩) ⟨[(86, .bool false)], _, _, (nfRf2s ..).trans (if_pos (by simp)), Gc.refl⟩
    by_cases hk : i ∈ (fl1 P D S n n).2.2
    · exact stepRf2t hc hSl hSn hSs hn hi hk
    · exact stepRf2k hi hk hn
  have hx : flX P D S n = (fl2 P D S n (jQ P D S n n)).2.1 := rfl
  rw [hx]
  refine ⟨intL (fl2 P D S n (jQ P D S n n)).1, (kpL n fun x => !decide (x ∈ (fl1 P D S n n).2.2.drop (jQ P D S n n))), ?_⟩
  refine Runs.ofT (tRfOk P.length S) (F := 100) (n := 4) (pr := [(36, .bool false), (39, .bool false)]) (both (k := 9) (k2 := 16) lp rfl rfl (by decide) (fixC_T (tRfOk _ _) (F := 100) (n := 4) (LS := noT) (noLoops (by kernel_rfl)) k1) (fixC_T (tRfOk _ _) (F := 100) (n := 4) (LS := lsRf) lsRfOk k2)) ?_
  obtain ⟨a, b⟩ := mb_ok (rowP_blk (P := P) (h := [ABlk.cells (dipsC D) 18 Md.far none, .cells (itP P) 19 .far none]) (k := 1) (n := P.length) (r := 0) (e := false) rfl rfl) (by omega)
  have gS : RhR [AV.sl (some (1, 0)) P.length 0 false, AV.int .i64 (n : Int)] [ABlk.cells (dipsC D) 18 Md.far none, .cells (itP P) 19 .far none] (AV.sl (some (2, 0)) P.length 0 false) [.cells (intL S) 1 .own none] := .mk P n _ _ (rowP_blk rfl rfl) (by omega) S _ hS hSl.symm
  refine (nfRfm ..).trans ?_
  refine (if_neg (by simp; omega)).trans ?_
  refine (if_neg (by simp; omega)).trans ?_
  refine (if_pos (cdec_true.2 a)).trans ?_
  refine (if_neg (by unfold hRfm0; rw [b, decide_eq_true hc]; decide)).trans ?_
  have hz : ((P.length : Int) == 0) = false := by simp; exact hpe
  rcases hD with hD | hD
  · subst hD
    refine (if_neg (by simp)).trans ?_
    refine (if_pos hz).trans ?_
    refine (if_pos (cdec_true.2 gS)).trans ?_
    refine (if_pos ⟨rfl, by decide, by omega, by omega, by omega, by omega⟩).trans ?_
    refine (if_pos ⟨rfl, by decide, by omega, by omega, by omega, by omega⟩).trans ?_
    refine (if_pos (cdec_true.2 ⟨trivial, rfl, rfl⟩)).trans ?_
    refine (if_pos (cdec_true.2 ⟨trivial, rfl, rfl⟩)).trans ?_
    rfl
  · refine (if_pos (by rw [bne_iff_ne]; omega)).trans ?_
    refine (if_pos (by rw [hD]; simp)).trans ?_
    refine (if_pos hz).trans ?_
    refine (if_pos (cdec_true.2 gS)).trans ?_
    refine (if_pos ⟨rfl, by decide, by omega, by omega, by omega, by omega⟩).trans ?_
    refine (if_pos ⟨rfl, by decide, by omega, by omega, by omega, by omega⟩).trans ?_
    refine (if_pos (cdec_true.2 ⟨trivial, rfl, rfl⟩)).trans ?_
    refine (if_pos (cdec_true.2 ⟨trivial, rfl, rfl⟩)).trans ?_
    rfl
theorem runRfe {n : Int} (hl : P.length ≤ 1000000) (h : badF P D n) : ∃ h', Runs Try.prog 11 [.sl (some (0, 0)) D.length 0 false, .sl (some (1, 0)) P.length 0 false, .int .i64 n] [.cells (dipsC D) 18 .far none, .cells (itP P) 19 .far none] (.tup [.sl none 0 0 true, .int .i64 1]) h' := by
  refine Runs.valT0 (tRfOk 0 []) (F := 100) (n := 4) (pr := [(36, .bool true)]) ?_
  refine (nfRfe ..).trans ?_
  by_cases h0 : n < 1
  · exact if_pos (decide_eq_true h0)
  refine (if_neg (by simpa using h0)).trans ?_
  by_cases h1 : 64 < n
  · exact if_pos (decide_eq_true h1)
  refine (if_neg (by simpa using h1)).trans ?_
  obtain ⟨a, b⟩ := mb_ok (rowP_blk (P := P) (h := hRfe0 (dipsC D) (itP P) D.length P.length n) (k := 1) (n := P.length) (r := 0) (e := false) rfl rfl) hl
  refine (if_pos (cdec_true.2 a)).trans ?_
  rw [b]
  by_cases h2 : chkP P ≠ 0
  · exact if_pos (by rw [decide_eq_false h2]; rfl)
  have h2' : chkP P = 0 := Classical.byContradiction h2
  refine (if_neg (by rw [decide_eq_true h2']; decide)).trans ?_
  have h3 : D ≠ [] ∧ (D.length : Int) ≠ n := by
    rcases h with h | h | h | h
    · exact absurd h h0
    · exact absurd h h1
    · exact absurd h h2
    · exact h
  have h4 : 0 < D.length := by cases D with | nil => exact absurd rfl h3.1 | cons _ _ => simp
  refine (if_pos (by rw [bne_iff_ne]; omega)).trans ?_
  exact if_pos (by simpa using h3.2)
theorem runRfn {n : Int} (h : ¬ badF P D n) (hp : P = []) : ∃ h', Runs Try.prog 11 [.sl (some (0, 0)) D.length 0 false, .sl (some (1, 0)) P.length 0 false, .int .i64 n] [.cells (dipsC D) 18 .far none, .cells (itP P) 19 .far none] (.tup [.sl none 0 0 true, .int .i64 0]) h' := by
  refine Runs.valT0 (tRfOk 0 []) (F := 100) (n := 4) (pr := [(36, .bool false), (39, .bool true)]) ?_
  refine (nfRfn ..).trans ?_
  obtain ⟨b0, b1, b2, b3⟩ := badF_not h
  obtain ⟨a, b⟩ := mb_ok (rowP_blk (P := P) (h := hRfn0 (dipsC D) (itP P) D.length P.length n) (k := 1) (n := P.length) (r := 0) (e := false) rfl rfl) (by subst hp; simp)
  refine (if_neg (by simp; omega)).trans ?_
  refine (if_neg (by simp; omega)).trans ?_
  refine (if_pos (cdec_true.2 a)).trans ?_
  rw [b, decide_eq_true b2]
  refine (if_neg (by decide)).trans ?_
  subst hp
  rcases b3 with hD | hD
  · subst hD
    refine (if_neg (by simp)).trans ?_
    exact if_pos rfl
  · refine (if_pos (by rw [bne_iff_ne]; omega)).trans ?_
    refine (if_pos (by rw [hD]; simp)).trans ?_
    exact if_pos rfl

inductive RfR : List AV → AHeap → AV → AHeap → Prop
  | mk (P : PL) (D : List DipC) (n : Int) (h : AHeap) (a b : AV) (ga : rowDs h a D) (gb : rowP h b P) (hl : P.length ≤ 1000000) (X : List DipC) (k : Nat) (e : Int) (hX : fillP P D n = X) (hk : k = X.length) (he : fillE P D n = e) :
      RfR [a, b, .int .i64 n] h (.tup [.sl (some (h.length, 0)) k 0 false, .int .i64 e]) [.cells (dipsC X) 18 .own none]
theorem kRf : ∀ args h v new, RfR args h v new → ∃ args1 h1, Canons h 0 args args1 h1 ∧ ∃ v1 h1', Runs Try.prog 11 args1 h1 v1 h1' ∧ ∃ ks, Den h1' h1.length h.length ks v1 v new ∧ KsOk ks := by
  intro args h v new hR
  cases hR with
  | mk P D n _ a b ga gb hlP X k e hX hk he =>
  subst hX hk he
  have ca : Canons h 0 [a, b, .int .i64 n] [.sl (some (0, 0)) D.length 0 false, .sl (some (1, 0)) P.length 0 false, .int .i64 n] [.cells (dipsC D) 18 .far none, .cells (itP P) 19 .far none] := .cons _ _ _ _ _ _ _ (rowDs_canon ga 0) (.cons _ _ _ _ _ _ _ (rowP_canon gb 1) (.cons _ _ _ _ _ _ _ (.flat _ _ rfl) (.nil _)))
  have nilD : ∀ (h1' : AHeap) (e : Int), Den h1' 2 h.length ([none] ++ []) (.tup [.sl none 0 0 true, .int .i64 e]) (.tup [.sl (some (h.length, 0)) 0 0 false, .int .i64 e]) [.cells [] 18 .own none] := fun h1' e => .tup _ _ _ _ _ (.cons _ _ _ _ _ _ _ _ _ (.nil _ _ 18) (.cons _ [] [] _ _ _ _ _ _ (.flat _ _ rfl) (.nil _)))
  by_cases hb : badF P D n
  · obtain ⟨h2, hr⟩ := runRfe hlP hb
    have e1 : fillP P D n = [] := by unfold fillP; rw [if_pos (.inl hb)]
    have e2 : fillE P D n = 1 := by unfold fillE; rw [if_pos hb]
    rw [e1, e2]
    exact ⟨_, _, ca, _, _, hr, _, nilD _ _, ksOk1 _⟩
  · have e2 : fillE P D n = 0 := by unfold fillE; rw [if_neg hb]
    obtain ⟨b0, b1, b2, b3⟩ := badF_not hb
    by_cases hp : P = []
    · obtain ⟨h2, hr⟩ := runRfn hb hp
      have e1 : fillP P D n = [] := by unfold fillP; rw [if_pos (.inr hp)]
      rw [e1, e2]
      exact ⟨_, _, ca, _, _, hr, _, nilD _ _, ksOk1 _⟩
    · have e1 : fillP P D n = flX P D (shP P n) n.toNat := by unfold fillP; rw [if_neg (by rintro (h | h); exact hb h; exact hp h)]
      have hp' : 0 < P.length := by cases P with | nil => exact absurd rfl hp | cons _ _ => simp
      have hn : n = (n.toNat : Int) := by omega
      rw [e1, e2]
      have hSl : (shP P n).length = P.length := shP_len (by omega) (by omega) b2 hp
      have hSn := shP_nonneg (P := P) (n := n) (by omega) (by omega) b2 hp'
      have hSs := shP_sum (P := P) (n := n) (by omega) (by omega) b2 hp'
      have hxl : (flX P D (shP P n) n.toNat).length = n.toNat := (fl2_inv hSl hSn (by omega) _ (Nat.le_refl _)).xl
      obtain ⟨L2, Q, hr⟩ := runRfm (P := P) (D := D) (n := n.toNat) (by omega) (by omega) b2 hp' (by rcases b3 with h | h; exact .inl h; exact .inr (by omega))
      rw [← hn] at hr
      refine ⟨_, _, ca, _, _, hr, [some 3] ++ [], ?_, ksOk1 _⟩
      have hd := Den.row (h1 := hRf (dipsC D) (itP P) L2 (dipsC (flX P D (shP P n) n.toNat)) Q) (n0 := 2) h.length 3 0 n.toNat 0 false (dipsC (flX P D (shP P n) n.toNat)) 18 none (by decide) (by decide) rfl ⟨by simp [capOf], by simp [capOf]; omega⟩ (by intro h; omega) (by rw [List.drop_zero, List.take_of_length_le (by simp; omega)]; exact dipsC_frees _)
      rw [List.drop_zero, List.take_of_length_le (by simp; omega)] at hd
      rw [hxl]
      exact .tup _ _ _ _ _ (.cons _ _ _ _ _ _ _ _ _ hd (.cons _ [] [] _ _ _ _ _ _ (.flat _ _ rfl) (.nil _)))
theorem sRf (L : List (Nat × AV × AHeap)) : SoundE Try.prog 11 (entF (eRel RfR L)) := relR_sound kRf L

end Go.Proofs.Ytlppbeoiphglcaa.L
