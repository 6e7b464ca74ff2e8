/- SlotsOut's run. -/
import Derived.Test.YtlppbeoiphglcaaSlotsOutN
set_option autoImplicit false
set_option maxRecDepth 100000
set_option linter.unusedVariables false
set_option linter.unusedSimpArgs false
namespace Go.Proofs.Ytlppbeoiphglcaa.L
open Go Go.Abs

theorem chk_nd (P : PL) : chkP P = 0 ↔ P.length ≤ 32 ∧ (∀ p ∈ P, mOk p = true) ∧ (fstD P).Nodup := by
  constructor
  · intro h
    refine ⟨chk_len h, fun p hp => ?_, ?_⟩
    · obtain ⟨i, hi, rfl⟩ := List.mem_iff_getElem.1 hp
      have := ((chk_iff P).1 h).2 i hi
      rw [badAt_some hi, Bool.or_eq_false_iff] at this
      simpa using this.1
    · unfold List.Nodup
      rw [List.pairwise_iff_getElem]
      intro i j hi hj hlt he
      simp only [fstD, List.getElem_map] at he
      have := dip_inj h (by simpa [fstD] using hi) (by simpa [fstD] using hj) he
      omega
  · rintro ⟨h1, h2, h3⟩
    refine chk_of h1 (fun i hi => h2 _ (List.getElem_mem hi)) (fun i k hi hk h => ?_)
    unfold List.Nodup at h3
    rw [List.pairwise_iff_getElem] at h3
    rcases Nat.lt_trichotomy i k with e | e | e
    · exact absurd (by simpa [fstD] using h) (h3 i k (by simpa [fstD] using hi) (by simpa [fstD] using hk) e)
    · exact e
    · exact absurd (by simpa [fstD] using h.symm) (h3 k i (by simpa [fstD] using hk) (by simpa [fstD] using hi) e)
def outP (P : PL) (r : Nat) : PL := P.take r ++ P.drop (r + 1)
theorem outP_perm {P : PL} {r : Nat} (hr : r < P.length) : (outP P r ++ [P[r]]).Perm P := by
  have e : P = P.take r ++ P[r] :: P.drop (r + 1) := by rw [← List.drop_eq_getElem_cons hr, List.take_append_drop]
  unfold outP
  conv => rhs; rw [e]
  rw [List.append_assoc]
  exact List.Perm.append_left _ (List.perm_append_comm)
theorem outP_len {P : PL} {r : Nat} (hr : r < P.length) : (outP P r).length = P.length - 1 := by unfold outP; simp; omega
theorem chk_perm {P Q : PL} (h : Q.Perm P) (hc : chkP P = 0) : chkP Q = 0 := by
  rw [chk_nd] at hc ⊢
  exact ⟨by rw [h.length_eq]; exact hc.1, fun p hp => hc.2.1 p (h.mem_iff.1 hp), (h.map Prod.fst).nodup_iff.2 hc.2.2⟩
theorem chk_sub {P Q : PL} (h : Q.Sublist P) (hc : chkP P = 0) : chkP Q = 0 := by
  rw [chk_nd] at hc ⊢
  exact ⟨Nat.le_trans h.length_le hc.1, fun p hp => hc.2.1 p (h.subset hp), hc.2.2.sublist (h.map _)⟩

variable {n : Int} {B0 B2 B3 B4 B7 B8 B9 B10 : ABlk} {P Q : PL} {Y Z : List DipC}
theorem stepSO1 {k : Int} {m r o j : Nat} {O : List AV} (hm : m = P.length) (hr : r < P.length) (hn : n = Y.length) (h64 : n ≤ 64) (hj : j < Y.length) (hne : Y[j] ≠ P[r].1) :
    qround Try.prog tSOL 100 4 [(82, .bool true), (94, .bool false)] noT SO1 mSO1 (vSO1 k n m r o Y.length j) (hSO1 B0 (itP P) B2 B3 B4 O (dipsC Y)) = some (.norm, vSO1 k n m r o Y.length ((j + 1 : Nat) : Int), hSO1 B0 (itP P) B2 B3 B4 O (dipsC Y)) := by
  have e5 := wrap1 (i := j) (by omega)
  have e6 : 0 + (j : Int).toNat * 18 = j * 18 := by omega
  have e7 : 0 + (r : Int).toNat * 19 + 0 = r * 19 := by omega
  have hlP := itP_length P
  have hlY := dipsC_length Y
  refine (nfSO1a ..).trans ?_
  rw [e6, e7, dipsC_at hj, itP_18 hr, e5]
  refine (if_pos (by simp; omega)).trans ?_
  refine (if_pos (by omega)).trans ?_
  refine (if_pos (by omega)).trans ?_
  refine (if_pos (by omega)).trans ?_
  refine (if_pos (by omega)).trans ?_
  generalize Y[j] = x at *
  generalize P[r].1 = d at *
  obtain ⟨v, b, q, hb⟩ := x
  obtain ⟨v', b', q', hb'⟩ := d
  obtain ⟨a0, a1, a2, a3, a4, a5, a6, a7, a8, a9, a10, a11, a12, a13, a14, a15, rfl⟩ := sixteen hb
  obtain ⟨c0, c1, c2, c3, c4, c5, c6, c7, c8, c9, c10, c11, c12, c13, c14, c15, rfl⟩ := sixteen hb'
  iterate 40 (refine (if_pos (by first | rfl | decide | (simp [DipC.cells]; done))).trans ?_)
  refine (if_pos (Bool.eq_false_iff.2 fun hc => hne ?_)).trans ?_
  · simp [DipC.cells, boolV, intV] at hc
    exact DipC.ext' hc.1.1 (by simp [hc]) (by simp [hc])
  · rfl
theorem stepSO2 {k : Int} {m r j : Nat} {C : List AV} (hY : Y.length ≤ 64) (hZ : Z.length ≤ 64) (hQ : Q.length ≤ 64) (hj : j < Q.length) (hle : cntD Z Q[j].1 ≤ cntD Y Q[j].1) :
    qround Try.prog tSOL 100 4 [(121, .bool true), (138, .bool false)] noT SO2 mSO2 (vSO2 k n m r Q.length Y.length Z.length j) (hSO2 B0 C B2 B3 B4 (itP Q) (dipsC Y) B7 B8 B9 B10 (dipsC Z)) = some (.norm, vSO2 k n m r Q.length Y.length Z.length ((j + 1 : Nat) : Int), hSO2 B0 C B2 B3 B4 (itP Q) (dipsC Y) B7 B8 B9 B10 (dipsC Z)) := by
  have e5 := wrap1 (i := j) (by omega)
  have e7 : 0 + (j : Int).toNat * 19 + 0 = j * 19 := by omega
  have hlP := itP_length Q
  obtain ⟨U1, U2⟩ := cnU (D := Z) (d := Q[j].1) (h := hSO2a0 B0 C B2 B3 B4 (itP Q) (dipsC Y) B7 B8 B9 B10 (dipsC Z) k n m r Q.length Y.length Z.length j) (a := .sl (some (11, 0)) Z.length 0 false) (rowDs_blk rfl rfl) rfl (by omega)
  obtain ⟨V1, V2⟩ := cnU (D := Y) (d := Q[j].1) (h := hSO2a0 B0 C B2 B3 B4 (itP Q) (dipsC Y) B7 B8 B9 B10 (dipsC Z) k n m r Q.length Y.length Z.length j) (a := .sl (some (6, 0)) Y.length 0 false) (rowDs_blk rfl rfl) rfl (by omega)
  refine (nfSO2a ..).trans ?_
  simp only [e7, itP_18 hj, U2, V2, e5]
  refine (if_pos (by simp; omega)).trans ?_
  refine (if_pos (by omega)).trans ?_
  refine (if_pos (by omega)).trans ?_
  refine (if_pos (cdec_true.2 (by rw [U2] at U1; exact U1))).trans ?_
  refine (if_pos (by omega)).trans ?_
  refine (if_pos (by omega)).trans ?_
  refine (if_pos (cdec_true.2 (by rw [V2] at V1; exact V1))).trans ?_
  refine (if_pos (by simp; omega)).trans ?_
  refine (if_pos (by omega)).trans ?_
  refine (if_pos (AV.beq_self _)).trans ?_
  rfl
theorem ediv_mono_k {k : Nat} (hk : 2 ≤ k) (h0 : 0 ≤ n) {j : Nat} (hj : j < k - 1) : (n / k + if (j : Int) < n % k then 1 else 0) ≤ n / (k - 1 : Nat) + if (j : Int) < n % (k - 1 : Nat) then 1 else 0 := by
  have e1 := Int.emod_add_mul_ediv n k
  have e2 := Int.emod_add_mul_ediv n (k - 1 : Nat)
  have m1 := Int.emod_lt_of_pos n (show (0 : Int) < k by omega)
  have m2 := Int.emod_lt_of_pos n (show (0 : Int) < (k - 1 : Nat) by omega)
  have n1 := Int.emod_nonneg n (show (k : Int) ≠ 0 by omega)
  have n2 := Int.emod_nonneg n (show ((k - 1 : Nat) : Int) ≠ 0 by omega)
  have q0 : 0 ≤ n / (k : Int) := Int.ediv_nonneg h0 (by omega)
  have hkk : (k : Int) = (k - 1 : Nat) + 1 := by omega
  generalize ha : n / (k : Int) = q at *
  generalize hb : n / ((k - 1 : Nat) : Int) = q' at *
  generalize hc : n % (k : Int) = t at *
  generalize hd : n % ((k - 1 : Nat) : Int) = t' at *
  generalize hK : ((k - 1 : Nat) : Int) = K at *
  rw [hkk, Int.add_mul] at e1
  have hqq : q ≤ q' := by
    refine Classical.byContradiction fun hno => ?_
    have h1 : q' + 1 ≤ q := by omega
    have := Int.mul_le_mul_of_nonneg_left h1 (show 0 ≤ K by omega)
    rw [Int.mul_add] at this
    omega
  by_cases he : q = q'
  · subst he
    split <;> split <;> omega
  · split <;> split <;> omega
theorem outFacts {P : PL} {k r : Nat} (hk : 2 ≤ k) (hk20 : k ≤ 20) (h1 : 1 ≤ n) (h64 : n ≤ 64) (hP : P.length = k) (hc : chkP P = 0) (hw : ∀ p ∈ P, p.2 = 1) (hr : r < P.length) {X Y Z : List DipC} (hX : fillP P [] n = X) (hY : fillP (outP P r) X n = Y) (hZ : fillP (outP P r ++ [P[r]]) Y n = Z) :
    (fillE P [] n = 0 ∧ fillE (outP P r) X n = 0 ∧ fillE (outP P r ++ [P[r]]) Y n = 0) ∧ ((X.length : Int) = n ∧ (Y.length : Int) = n ∧ (Z.length : Int) = n) ∧
    (∀ j (hj : j < Y.length), Y[j] ≠ P[r].1) ∧ (∀ j (hj : j < (outP P r).length), cntD Z (outP P r)[j].1 ≤ cntD Y (outP P r)[j].1) ∧
    ((cntD Z P[r].1 : Int) ≤ n / k + 1 ∧ n / k ≤ (cntD Z P[r].1 : Int)) ∧ (movP Y Z : Int) = cntD Z P[r].1 := by
  have hperm := outP_perm hr
  have hc2 := chk_perm hperm hc
  have hcQ : chkP (outP P r) = 0 := chk_sub (List.sublist_append_left _ _) hc2
  have hQl := outP_len hr
  have hnd := ((chk_nd _).1 hc2).2.2
  generalize hQ : outP P r = Q at *
  generalize hd : P[r] = d at *
  have hQp : 0 < Q.length := by omega
  have h2l : (Q ++ [d]).length = k := by simp; omega
  have hw2 : ∀ i (hi : i < (Q ++ [d]).length), ((Q ++ [d])[i]).2 = 1 := fun i hi => hw _ (hperm.mem_iff.1 (List.getElem_mem hi))
  have hwQ : ∀ i (hi : i < Q.length), Q[i].2 = 1 := fun i hi => hw _ (hperm.mem_iff.1 (List.mem_append_left _ (List.getElem_mem hi)))
  obtain ⟨e0, -, -, -, -, -⟩ := fill_ok (P := P) (D := []) (n := n) h1 h64 hc (by omega) (.inl rfl)
  have hXl := fill_len (P := P) (D := []) (n := n) h1 h64 hc (by omega) (.inl rfl)
  rw [hX] at hXl
  have hXn : (X.length : Int) = n := by omega
  obtain ⟨f0, -, -, -, -, -⟩ := fill_ok (P := Q) (D := X) (n := n) h1 h64 hcQ hQp (.inr hXn)
  have hYl := fill_len (P := Q) (D := X) (n := n) h1 h64 hcQ hQp (.inr hXn)
  have hYc := fun k hk => fill_cnt (P := Q) (D := X) (n := n) h1 h64 hcQ hQp (.inr hXn) (k := k) hk
  have hYm := fun x hx => fill_mem (P := Q) (D := X) (n := n) h1 h64 hcQ hQp (.inr hXn) (x := x) hx
  rw [hY] at hYl hYc hYm
  have hYn : (Y.length : Int) = n := by omega
  obtain ⟨g0, -, -, -, -, -⟩ := fill_ok (P := Q ++ [d]) (D := Y) (n := n) h1 h64 hc2 (by omega) (.inr hYn)
  have hZl := fill_len (P := Q ++ [d]) (D := Y) (n := n) h1 h64 hc2 (by omega) (.inr hYn)
  have hZc := fun k hk => fill_cnt (P := Q ++ [d]) (D := Y) (n := n) h1 h64 hc2 (by omega) (.inr hYn) (k := k) hk
  have hZm := fill_moved (P := Q ++ [d]) (D := Y) (n := n) h1 h64 hc2 (by omega) hYn
  rw [hZ] at hZl hZc hZm
  have sQ := fun i hi => sh_same (P := Q) (n := n) (c := 1) hcQ hQp (by omega) h64 hwQ (i := i) hi
  have s2 := fun i hi => sh_same (P := Q ++ [d]) (n := n) (c := 1) hc2 (by omega) (by omega) h64 hw2 (i := i) hi
  rw [h2l] at s2
  rw [hQl, hP] at sQ
  have hdn : ∀ i (hi : i < Q.length), Q[i].1 ≠ d.1 := by
    intro i hi he
    have h := dip_inj hc2 (i := i) (k := Q.length) (by simp; omega) (by simp) (by rw [List.getElem_append_left hi, List.getElem_append_right (Nat.le_refl _)]; simpa using he)
    omega
  have hYd : ∀ j (hj : j < Y.length), Y[j] ≠ d.1 := by
    intro j hj he
    obtain ⟨i, hi, h⟩ := hYm j (by omega)
    rw [List.getElem?_eq_getElem hj] at h
    injection h with h
    exact hdn i hi (h.symm.trans he)
  have hle : ∀ j (hj : j < Q.length), (shP (Q ++ [d]) n).getD j 0 ≤ (shP Q n).getD j 0 := by
    intro j hj
    rw [sQ j (by omega), s2 j (by omega)]
    exact ediv_mono_k hk (by omega) (by omega)
  have hcl : ∀ j (hj : j < Q.length), cntD Z Q[j].1 ≤ cntD Y Q[j].1 := by
    intro j hj
    have a := hZc j (by simp; omega)
    rw [List.getElem_append_left hj] at a
    have b := hYc j hj
    have := hle j hj
    omega
  have hlast := hZc Q.length (by simp)
  rw [List.getElem_append_right (Nat.le_refl _)] at hlast
  simp only [Nat.sub_self, List.getElem_singleton] at hlast
  have hs := s2 Q.length (by omega)
  have hY0 : cntD Y d.1 = 0 := by
    unfold cntD
    rw [List.countP_eq_zero]
    intro x hx
    obtain ⟨j, hj, rfl⟩ := List.mem_iff_getElem.1 hx
    simpa using hYd j hj
  refine ⟨⟨e0, f0, g0⟩, ⟨hXn, hYn, by omega⟩, hYd, hcl, ?_, ?_⟩
  · rw [hlast, hs]
    split <;> omega
  · rw [hZm, hlast]
    have e : (List.range (Q ++ [d]).length).map (fun k => max ((shP (Q ++ [d]) n).getD k 0 - cntD Y ((Q ++ [d]).getD k (zD, 0)).1) 0) = List.replicate Q.length 0 ++ [(shP (Q ++ [d]) n).getD Q.length 0] := by
      rw [show (Q ++ [d]).length = Q.length + 1 by simp, List.range_succ, List.map_append]
      congr 1
      · refine List.ext_getElem (by simp) fun i h3 h4 => ?_
        have hi : i < Q.length := by simpa using h4
        have hg : (Q ++ [d]).getD i (zD, 0) = Q[i] := by rw [List.getD_eq_getElem?_getD, List.getElem?_append_left hi, List.getElem?_eq_getElem hi, Option.getD_some]
        have a := hYc i hi
        have b := hle i hi
        rw [List.getElem_map, List.getElem_range, hg, List.getElem_replicate]
        omega
      · have hg : (Q ++ [d]).getD Q.length (zD, 0) = d := by rw [List.getD_eq_getElem?_getD, List.getElem?_append_right (Nat.le_refl _)]; simp
        simp only [List.map_cons, List.map_nil]
        rw [hg, hY0, hs]
        have : 0 ≤ n / (k : Int) := Int.ediv_nonneg (by omega) (by omega)
        congr 1
        split <;> omega
    rw [e, sumL_append]
    have : ∀ m, sumL (List.replicate m (0 : Int)) = 0 := fun m => by induction m with | zero => rfl | succ m ih => rw [List.replicate_succ, sumL_cons, ih]; rfl
    rw [this]; simp
theorem zrep_int0 (k : Nat) : zrep k [AV.int .i64 0] = intL (List.replicate k 0) := by rw [zrep_ints]; simp [intL]
theorem runSlotsOut (k out n : Int) (hk : -9223372036854775808 ≤ k ∧ k < 9223372036854775808) (ho : -9223372036854775808 ≤ out ∧ out < 9223372036854775808) (hn : -9223372036854775808 ≤ n ∧ n < 9223372036854775808) : ∃ h', Runs Try.prog 7 [.int .i64 k, .int .i64 out, .int .i64 n] [] (.bool true) h' := by
  by_cases hb : k < 2 ∨ k > 20 ∨ n < 1 ∨ n > 64
  · refine Runs.valT0 (tSOOk _ _ _ _ _ _ _ _ _ _ _) (F := 100) (n := 4) (pr := [(31, .bool true)]) ((nfSOl ..).trans ?_)
    by_cases h1 : k < 2
    · exact if_pos (decide_eq_true h1)
    refine (if_neg (by simpa using h1)).trans ?_
    by_cases h2 : k > 20
    · exact if_pos (decide_eq_true h2)
    refine (if_neg (by simpa using h2)).trans ?_
    by_cases h3 : n < 1
    · exact if_pos (decide_eq_true h3)
    refine (if_neg (by simpa using h3)).trans ?_
    exact if_pos (by simp; omega)
  obtain ⟨k, rfl⟩ : ∃ m : Nat, k = m := ⟨k.toNat, by omega⟩
  have k2 : 2 ≤ k := by omega
  have k20 : k ≤ 20 := by omega
  have n1 : 1 ≤ n := by omega
  have n64 : n ≤ 64 := by omega
  have hrl := Int.emod_lt_of_pos out (show (0 : Int) < k by omega)
  have hr0 := Int.emod_nonneg out (show (k : Int) ≠ 0 by omega)
  obtain ⟨r, hr⟩ : ∃ r : Nat, out % (k : Int) = r := ⟨(out % (k : Int)).toNat, by omega⟩
  have hPl : (svP (List.replicate k 0) true).length = k := by simp [svP]; omega
  have hc : chkP (svP (List.replicate k 0) true) = 0 := svN_chk _ _ _ (by omega)
  have hw : ∀ p ∈ svP (List.replicate k 0) true, p.2 = 1 := by
    intro p hp
    obtain ⟨i, hi, rfl⟩ := List.mem_iff_getElem.1 hp
    unfold svP at hi ⊢
    rw [svN_get _ _ (by simpa using hi)]
    simp only [List.getD_eq_getElem?_getD, List.getElem?_replicate]
    split <;> rfl
  generalize hP : svP (List.replicate k 0) true = P at *
  have hrP : r < P.length := by omega
  obtain ⟨⟨e0, f0, g0⟩, ⟨hXl, hYl, hZl⟩, hne, hcl, hlast, hmv⟩ := outFacts (n := n) k2 k20 n1 n64 hPl hc hw hrP rfl rfl rfl
  generalize hX : fillP P [] n = X at *
  generalize hY : fillP (outP P r) X n = Y at *
  generalize hZ : fillP (outP P r ++ [P[r]]) Y n = Z at *
  have hQl := outP_len hrP
  have lp : loopsOf (bodyOf Try.prog 7) = [SO1, SO2] := by kernel_rfl
  have rw0 : IntKind.i64.wrap ((r : Int) + 1) = ((r + 1 : Nat) : Int) := wrap1 (by omega)
  have t1 : (r : Int).toNat - 0 = r := by omega
  have t2 : ((r + 1 : Nat) : Int).toNat = r + 1 := by omega
  have t3 : 0 + (r + 1) * 19 = (r + 1) * 19 := by omega
  have hlP := itP_length P
  have c1 : List.take (r * 19) (itP P) = itP (P.take r) := itP_take P r
  have c2 : List.take ((P.length - (r + 1)) * 19) (List.drop ((r + 1) * 19) (itP P)) = itP (P.drop (r + 1)) := by
    rw [itP_drop]; exact List.take_of_length_le (by simp)
  have c3 : List.take ((0 + r) * 19) (itP (P.take r)) = itP (P.take r) := List.take_of_length_le (by simp; omega)
  have c4 : itP (P.take r) ++ itP (P.drop (r + 1)) = itP (outP P r) := (itP_append _ _).symm
  have hol : 0 + r + (P.length - (r + 1)) = (outP P r).length := by omega
  let B0 : ABlk := .cells (zrep k [.int .i64 0]) 1 .own none
  let B2 : ABlk := .cells (dipsC X) 18 .own none
  let B4 : ABlk := .cells (itP (P.take r)) 19 .ro none
  let B8 : ABlk := .cells (itP (outP P r)) 19 .ro none
  let B9 : ABlk := .cells (illC P[r].1 P[r].2) 19 .own none
  let B10 : ABlk := .cells (itP (outP P r ++ [P[r]])) 19 .own (some 8)
  have k1 : True → ∃ j, GReach (roundG Try.prog (deepT Try.prog tSOL 100 4) (lsT noT) SO1 mSO1) 7 j (vSO1 k n P.length r (outP P r).length Y.length 0) (hSO1 B0 (itP P) B2 .dead B4 (itP (outP P r)) (dipsC Y)) (.exit 0) (vSO1 k n P.length r (outP P r).length Y.length n) (hSO1 B0 (itP P) B2 .dead B4 (itP (outP P r)) (dipsC Y)) := by
    intro _
    refine loop_T (fun j => (vSO1 k n P.length r (outP P r).length Y.length j, hSO1 B0 (itP P) B2 .dead B4 (itP (outP P r)) (dipsC Y))) (N := Y.length) (by simp) (fun j hj => ⟨_, _, _, stepSO1 rfl hrP hYl.symm n64 hj (hne j hj), Gc.refl⟩) ⟨[(82, .bool false)], _, _, (nfSO1s ..).trans (if_pos (by simp; omega)), ?_⟩
    rw [hYl]; exact Gc.refl
  have k2' : True → ∃ j, GReach (roundG Try.prog (deepT Try.prog tSOL 100 4) (lsT noT) SO2 mSO2) 12 j (vSO2 k n P.length r (outP P r).length Y.length Z.length 0) (hSO2 B0 (itP P) B2 .dead B4 (itP (outP P r)) (dipsC Y) .dead B8 B9 B10 (dipsC Z)) (.exit 2) (vSO2 k n P.length r (outP P r).length Y.length Z.length (outP P r).length) (hSO2 B0 (itP P) B2 .dead B4 (itP (outP P r)) (dipsC Y) .dead B8 B9 B10 (dipsC Z)) := by
    intro _
    exact loop_T (fun j => (vSO2 k n P.length r (outP P r).length Y.length Z.length j, hSO2 B0 (itP P) B2 .dead B4 (itP (outP P r)) (dipsC Y) .dead B8 B9 B10 (dipsC Z))) (N := (outP P r).length) (by simp) (fun j hj => ⟨_, _, _, stepSO2 (by omega) (by omega) (by omega) hj (hcl j hj), Gc.refl⟩) ⟨[(121, .bool false)], _, _, (nfSO2s ..).trans (if_pos (by simp)), Gc.refl⟩
  refine Runs.valT (tSOOk P X Y Z P.length X.length Y.length Z.length 0 0 0) (F := 100) (n := 4) (pr := [(31, .bool false), (79, .bool false), (117, .bool false)]) (both (k := 11) (k2 := 19) lp rfl rfl (by decide) (fixC_T (tSOOk _ _ _ _ _ _ _ _ _ _ _) (F := 100) (n := 4) (LS := noT) (noLoops (by kernel_rfl)) k1) (fixC_T (tSOOk _ _ _ _ _ _ _ _ _ _ _) (F := 100) (n := 4) (LS := noT) (noLoops (by kernel_rfl)) k2')) ?_
  refine (nfSOm ..).trans ?_
  have d1 : n.tdiv k = n / k := Int.tdiv_eq_ediv_of_nonneg (by omega)
  have d2 := Int.ediv_le_self (b := (k : Int)) (a := n) (by omega)
  have d3 : 0 ≤ n / k := Int.ediv_nonneg (by omega) (by omega)
  have w1 : IntKind.i64.wrap (n / k) = n / k := wrapI64 (by omega)
  have w2 : IntKind.i64.wrap (n / k + 1) = n / k + 1 := wrapI64 (by omega)
  have g18 : List.take 18 (List.drop (0 + r * 19 + 0) (itP P)) = P[r].1.cells := by
    rw [show 0 + r * 19 + 0 = r * 19 by omega]; exact itP_18 hrP
  have g19 : List.take 19 (List.drop (0 + r * 19) (itP P)) = illC P[r].1 P[r].2 := by
    rw [show 0 + r * 19 = r * 19 by omega]; exact itP_19 hrP
  have o1 : List.take ((outP P r).length * 19) (itP (outP P r)) = itP (outP P r) := List.take_of_length_le (by simp)
  have o2 : List.take ((0 + (outP P r).length) * 19) (itP (outP P r)) = itP (outP P r) := List.take_of_length_le (by simp)
  have o3 : itP (outP P r) ++ illC P[r].1 P[r].2 = itP (outP P r ++ [P[r]]) := by rw [itP_append]; simp [itP]
  have gI : rowI [.cells (zrep (k : Int).toNat [AV.int .i64 0]) 1 .own none] (.sl (some (0, 0)) (k : Int).toNat 0 false) (List.replicate k 0) := by rw [Int.toNat_natCast, zrep_int0]; exact rowI_blk rfl (by simp)
  have hm4 : hSOm4 True True k out n P X Y Z P.length X.length Y.length Z.length (outP P r).length 0 0 0 r B0 B2 .dead B4 .dead B8 B9 B10 (itP (outP P r)) = [B0, .cells (itP P) 19 .own none, B2, .dead, B4, .cells (itP (outP P r)) 19 .own (some 4)] := by
    unfold hSOm4
    simp only [hr, rw0, Int.toNat_natCast, Nat.sub_zero, t3, c1, c2, c3, c4]
    rfl
  have hm6 : hSOm6 True True k out n P X Y Z P.length X.length Y.length Z.length (outP P r).length 0 0 0 r B0 B2 .dead B4 .dead B8 B9 B10 (itP (outP P r)) = hSOm7 True True k out n P X Y Z P.length X.length Y.length Z.length (outP P r).length 0 0 0 r B0 B2 .dead B4 .dead B8 B9 B10 (itP (outP P r)) := by
    unfold hSOm6 hSOm7
    simp only [hr, rw0, Int.toNat_natCast, Nat.sub_zero, t3, c1, c2, c3, c4]
    rfl
  have hm8 : hSOm8 True True k out n P X Y Z P.length X.length Y.length Z.length (outP P r).length 0 0 0 r B0 B2 .dead B4 .dead B8 B9 B10 (itP (outP P r)) = [B0, .cells (itP P) 19 .own none, B2, .dead, B4, .cells (itP (outP P r)) 19 .own (some 4), .cells (dipsC Y) 18 .own none, .dead, B8, B9, B10] := by
    unfold hSOm8
    simp only [Int.toNat_natCast, g19, putC, takeC, o1, o2, o3]
    rfl
  have hm10 : hSOm10 True True k out n P X Y Z P.length X.length Y.length Z.length (outP P r).length 0 0 0 r B0 B2 .dead B4 .dead B8 B9 B10 (itP (outP P r)) = hSOm11 True True k out n P X Y Z P.length X.length Y.length Z.length (outP P r).length 0 0 0 r B0 B2 .dead B4 .dead B8 B9 B10 (itP (outP P r)) := by
    unfold hSOm10 hSOm11
    simp only [Int.toNat_natCast, g19, putC, takeC, o1, o2, o3]
    rfl
  obtain ⟨U1, U2⟩ := cnU (D := Z) (d := P[r].1) (h := hSOm11 True True k out n P X Y Z P.length X.length Y.length Z.length (outP P r).length 0 0 0 r B0 B2 .dead B4 .dead B8 B9 B10 (itP (outP P r))) (a := .sl (some (11, 0)) Z.length 0 false) (rowDs_blk rfl rfl) rfl (by omega)
  obtain ⟨V1, V2⟩ := mvU (A := Y) (B := Z) (h := hSOm11 True True k out n P X Y Z P.length X.length Y.length Z.length (outP P r).length 0 0 0 r B0 B2 .dead B4 .dead B8 B9 B10 (itP (outP P r))) (a := .sl (some (6, 0)) Y.length 0 false) (b := .sl (some (11, 0)) Z.length 0 false) (rowDs_blk rfl rfl) (rowDs_blk rfl rfl) (by omega) (by omega)
  simp only [hr, rw0, Int.toNat_natCast, Nat.sub_zero, t3, c1, c2, c3, hol, g18, g19, putC, takeC, o1, d1, w1, w2, U2, V2, hm4, hm6, hm8, hm10]
  refine (if_neg (by first | omega | (simp [capOf]; omega) | (simp; done) | (simp; omega) | exact AV.beq_self _ | exact ⟨trivial, trivial, .inr trivial, trivial, itP_cell _⟩ | exact ⟨trivial, by simp; omega, .inr trivial, trivial, itP_cell _⟩ | exact ⟨trivial, by simp; omega, .inl (by decide), trivial, illC_cell _ _⟩ | exact ⟨by omega, trivial, by omega⟩ | exact ⟨trivial, by simp, .inl (by decide), trivial, illC_cell _ _⟩ | exact ⟨trivial, by simp, .inr trivial, trivial, illC_cell _ _⟩ | exact ⟨trivial, by simp, .inr trivial, trivial, itP_cell _⟩)).trans ?_
  refine (if_neg (by first | omega | (simp [capOf]; omega) | (simp; done) | (simp; omega) | exact AV.beq_self _ | exact ⟨trivial, trivial, .inr trivial, trivial, itP_cell _⟩ | exact ⟨trivial, by simp; omega, .inr trivial, trivial, itP_cell _⟩ | exact ⟨trivial, by simp; omega, .inl (by decide), trivial, illC_cell _ _⟩ | exact ⟨by omega, trivial, by omega⟩ | exact ⟨trivial, by simp, .inl (by decide), trivial, illC_cell _ _⟩ | exact ⟨trivial, by simp, .inr trivial, trivial, illC_cell _ _⟩ | exact ⟨trivial, by simp, .inr trivial, trivial, itP_cell _⟩)).trans ?_
  refine (if_neg (by first | omega | (simp [capOf]; omega) | (simp; done) | (simp; omega) | exact AV.beq_self _ | exact ⟨trivial, trivial, .inr trivial, trivial, itP_cell _⟩ | exact ⟨trivial, by simp; omega, .inr trivial, trivial, itP_cell _⟩ | exact ⟨trivial, by simp; omega, .inl (by decide), trivial, illC_cell _ _⟩ | exact ⟨by omega, trivial, by omega⟩ | exact ⟨trivial, by simp, .inl (by decide), trivial, illC_cell _ _⟩ | exact ⟨trivial, by simp, .inr trivial, trivial, illC_cell _ _⟩ | exact ⟨trivial, by simp, .inr trivial, trivial, itP_cell _⟩)).trans ?_
  refine (if_pos (by first | omega | (simp [capOf]; omega) | (simp; done) | (simp; omega) | exact AV.beq_self _ | exact ⟨trivial, trivial, .inr trivial, trivial, itP_cell _⟩ | exact ⟨trivial, by simp; omega, .inr trivial, trivial, itP_cell _⟩ | exact ⟨trivial, by simp; omega, .inl (by decide), trivial, illC_cell _ _⟩ | exact ⟨by omega, trivial, by omega⟩ | exact ⟨trivial, by simp, .inl (by decide), trivial, illC_cell _ _⟩ | exact ⟨trivial, by simp, .inr trivial, trivial, illC_cell _ _⟩ | exact ⟨trivial, by simp, .inr trivial, trivial, itP_cell _⟩)).trans ?_
  refine (if_pos (by first | omega | (simp [capOf]; omega) | (simp; done) | (simp; omega) | exact AV.beq_self _ | exact ⟨trivial, trivial, .inr trivial, trivial, itP_cell _⟩ | exact ⟨trivial, by simp; omega, .inr trivial, trivial, itP_cell _⟩ | exact ⟨trivial, by simp; omega, .inl (by decide), trivial, illC_cell _ _⟩ | exact ⟨by omega, trivial, by omega⟩ | exact ⟨trivial, by simp, .inl (by decide), trivial, illC_cell _ _⟩ | exact ⟨trivial, by simp, .inr trivial, trivial, illC_cell _ _⟩ | exact ⟨trivial, by simp, .inr trivial, trivial, itP_cell _⟩)).trans ?_
  refine (if_pos (cdec_true.2 (.mk (List.replicate k 0) true _ _ gI P _ hP rfl))).trans ?_
  refine (if_pos (cdec_true.2 (.mk P [] n _ _ _ (rowDs_nil _ _) (rowP_blk rfl rfl) X _ 0 hX rfl e0))).trans ?_
  refine (if_pos (by first | omega | (simp [capOf]; omega) | (simp; done) | (simp; omega) | exact AV.beq_self _ | exact ⟨trivial, trivial, .inr trivial, trivial, itP_cell _⟩ | exact ⟨trivial, by simp; omega, .inr trivial, trivial, itP_cell _⟩ | exact ⟨trivial, by simp; omega, .inl (by decide), trivial, illC_cell _ _⟩ | exact ⟨by omega, trivial, by omega⟩ | exact ⟨trivial, by simp, .inl (by decide), trivial, illC_cell _ _⟩ | exact ⟨trivial, by simp, .inr trivial, trivial, illC_cell _ _⟩ | exact ⟨trivial, by simp, .inr trivial, trivial, itP_cell _⟩)).trans ?_
  refine (if_pos (by first | omega | (simp [capOf]; omega) | (simp; done) | (simp; omega) | exact AV.beq_self _ | exact ⟨trivial, trivial, .inr trivial, trivial, itP_cell _⟩ | exact ⟨trivial, by simp; omega, .inr trivial, trivial, itP_cell _⟩ | exact ⟨trivial, by simp; omega, .inl (by decide), trivial, illC_cell _ _⟩ | exact ⟨by omega, trivial, by omega⟩ | exact ⟨trivial, by simp, .inl (by decide), trivial, illC_cell _ _⟩ | exact ⟨trivial, by simp, .inr trivial, trivial, illC_cell _ _⟩ | exact ⟨trivial, by simp, .inr trivial, trivial, itP_cell _⟩)).trans ?_
  refine (if_pos (by first | omega | (simp [capOf]; omega) | (simp; done) | (simp; omega) | exact AV.beq_self _ | exact ⟨trivial, trivial, .inr trivial, trivial, itP_cell _⟩ | exact ⟨trivial, by simp; omega, .inr trivial, trivial, itP_cell _⟩ | exact ⟨trivial, by simp; omega, .inl (by decide), trivial, illC_cell _ _⟩ | exact ⟨by omega, trivial, by omega⟩ | exact ⟨trivial, by simp, .inl (by decide), trivial, illC_cell _ _⟩ | exact ⟨trivial, by simp, .inr trivial, trivial, illC_cell _ _⟩ | exact ⟨trivial, by simp, .inr trivial, trivial, itP_cell _⟩)).trans ?_
  refine (if_pos (by first | omega | (simp [capOf]; omega) | (simp; done) | (simp; omega) | exact AV.beq_self _ | exact ⟨trivial, trivial, .inr trivial, trivial, itP_cell _⟩ | exact ⟨trivial, by simp; omega, .inr trivial, trivial, itP_cell _⟩ | exact ⟨trivial, by simp; omega, .inl (by decide), trivial, illC_cell _ _⟩ | exact ⟨by omega, trivial, by omega⟩ | exact ⟨trivial, by simp, .inl (by decide), trivial, illC_cell _ _⟩ | exact ⟨trivial, by simp, .inr trivial, trivial, illC_cell _ _⟩ | exact ⟨trivial, by simp, .inr trivial, trivial, itP_cell _⟩)).trans ?_
  refine (if_pos (by first | omega | (simp [capOf]; omega) | (simp; done) | (simp; omega) | exact AV.beq_self _ | exact ⟨trivial, trivial, .inr trivial, trivial, itP_cell _⟩ | exact ⟨trivial, by simp; omega, .inr trivial, trivial, itP_cell _⟩ | exact ⟨trivial, by simp; omega, .inl (by decide), trivial, illC_cell _ _⟩ | exact ⟨by omega, trivial, by omega⟩ | exact ⟨trivial, by simp, .inl (by decide), trivial, illC_cell _ _⟩ | exact ⟨trivial, by simp, .inr trivial, trivial, illC_cell _ _⟩ | exact ⟨trivial, by simp, .inr trivial, trivial, itP_cell _⟩)).trans ?_
  refine (if_pos (by first | omega | (simp [capOf]; omega) | (simp; done) | (simp; omega) | exact AV.beq_self _ | exact ⟨trivial, trivial, .inr trivial, trivial, itP_cell _⟩ | exact ⟨trivial, by simp; omega, .inr trivial, trivial, itP_cell _⟩ | exact ⟨trivial, by simp; omega, .inl (by decide), trivial, illC_cell _ _⟩ | exact ⟨by omega, trivial, by omega⟩ | exact ⟨trivial, by simp, .inl (by decide), trivial, illC_cell _ _⟩ | exact ⟨trivial, by simp, .inr trivial, trivial, illC_cell _ _⟩ | exact ⟨trivial, by simp, .inr trivial, trivial, itP_cell _⟩)).trans ?_
  refine (if_pos (by first | omega | (simp [capOf]; omega) | (simp; done) | (simp; omega) | exact AV.beq_self _ | exact ⟨trivial, trivial, .inr trivial, trivial, itP_cell _⟩ | exact ⟨trivial, by simp; omega, .inr trivial, trivial, itP_cell _⟩ | exact ⟨trivial, by simp; omega, .inl (by decide), trivial, illC_cell _ _⟩ | exact ⟨by omega, trivial, by omega⟩ | exact ⟨trivial, by simp, .inl (by decide), trivial, illC_cell _ _⟩ | exact ⟨trivial, by simp, .inr trivial, trivial, illC_cell _ _⟩ | exact ⟨trivial, by simp, .inr trivial, trivial, itP_cell _⟩)).trans ?_
  refine (if_pos (by first | omega | (simp [capOf]; omega) | (simp; done) | (simp; omega) | exact AV.beq_self _ | exact ⟨trivial, trivial, .inr trivial, trivial, itP_cell _⟩ | exact ⟨trivial, by simp; omega, .inr trivial, trivial, itP_cell _⟩ | exact ⟨trivial, by simp; omega, .inl (by decide), trivial, illC_cell _ _⟩ | exact ⟨by omega, trivial, by omega⟩ | exact ⟨trivial, by simp, .inl (by decide), trivial, illC_cell _ _⟩ | exact ⟨trivial, by simp, .inr trivial, trivial, illC_cell _ _⟩ | exact ⟨trivial, by simp, .inr trivial, trivial, itP_cell _⟩)).trans ?_
  refine (if_pos (by first | omega | (simp [capOf]; omega) | (simp; done) | (simp; omega) | exact AV.beq_self _ | exact ⟨trivial, trivial, .inr trivial, trivial, itP_cell _⟩ | exact ⟨trivial, by simp; omega, .inr trivial, trivial, itP_cell _⟩ | exact ⟨trivial, by simp; omega, .inl (by decide), trivial, illC_cell _ _⟩ | exact ⟨by omega, trivial, by omega⟩ | exact ⟨trivial, by simp, .inl (by decide), trivial, illC_cell _ _⟩ | exact ⟨trivial, by simp, .inr trivial, trivial, illC_cell _ _⟩ | exact ⟨trivial, by simp, .inr trivial, trivial, itP_cell _⟩)).trans ?_
  refine (if_pos (by first | omega | (simp [capOf]; omega) | (simp; done) | (simp; omega) | exact AV.beq_self _ | exact ⟨trivial, trivial, .inr trivial, trivial, itP_cell _⟩ | exact ⟨trivial, by simp; omega, .inr trivial, trivial, itP_cell _⟩ | exact ⟨trivial, by simp; omega, .inl (by decide), trivial, illC_cell _ _⟩ | exact ⟨by omega, trivial, by omega⟩ | exact ⟨trivial, by simp, .inl (by decide), trivial, illC_cell _ _⟩ | exact ⟨trivial, by simp, .inr trivial, trivial, illC_cell _ _⟩ | exact ⟨trivial, by simp, .inr trivial, trivial, itP_cell _⟩)).trans ?_
  refine (if_pos (cdec_true.2 (.mk (outP P r) X n _ _ _ (rowDs_blk rfl rfl) (rowP_blk rfl rfl) Y _ 0 hY rfl f0))).trans ?_
  refine (if_neg (by first | omega | (simp [capOf]; omega) | (simp; done) | (simp; omega) | exact AV.beq_self _ | exact ⟨trivial, trivial, .inr trivial, trivial, itP_cell _⟩ | exact ⟨trivial, by simp; omega, .inr trivial, trivial, itP_cell _⟩ | exact ⟨trivial, by simp; omega, .inl (by decide), trivial, illC_cell _ _⟩ | exact ⟨by omega, trivial, by omega⟩ | exact ⟨trivial, by simp, .inl (by decide), trivial, illC_cell _ _⟩ | exact ⟨trivial, by simp, .inr trivial, trivial, illC_cell _ _⟩ | exact ⟨trivial, by simp, .inr trivial, trivial, itP_cell _⟩)).trans ?_
  refine (if_neg (by first | omega | (simp [capOf]; omega) | (simp; done) | (simp; omega) | exact AV.beq_self _ | exact ⟨trivial, trivial, .inr trivial, trivial, itP_cell _⟩ | exact ⟨trivial, by simp; omega, .inr trivial, trivial, itP_cell _⟩ | exact ⟨trivial, by simp; omega, .inl (by decide), trivial, illC_cell _ _⟩ | exact ⟨by omega, trivial, by omega⟩ | exact ⟨trivial, by simp, .inl (by decide), trivial, illC_cell _ _⟩ | exact ⟨trivial, by simp, .inr trivial, trivial, illC_cell _ _⟩ | exact ⟨trivial, by simp, .inr trivial, trivial, itP_cell _⟩)).trans ?_
  refine (if_neg (by first | omega | (simp [capOf]; omega) | (simp; done) | (simp; omega) | exact AV.beq_self _ | exact ⟨trivial, trivial, .inr trivial, trivial, itP_cell _⟩ | exact ⟨trivial, by simp; omega, .inr trivial, trivial, itP_cell _⟩ | exact ⟨trivial, by simp; omega, .inl (by decide), trivial, illC_cell _ _⟩ | exact ⟨by omega, trivial, by omega⟩ | exact ⟨trivial, by simp, .inl (by decide), trivial, illC_cell _ _⟩ | exact ⟨trivial, by simp, .inr trivial, trivial, illC_cell _ _⟩ | exact ⟨trivial, by simp, .inr trivial, trivial, itP_cell _⟩)).trans ?_
  refine (if_pos (by first | omega | (simp [capOf]; omega) | (simp; done) | (simp; omega) | exact AV.beq_self _ | exact ⟨trivial, trivial, .inr trivial, trivial, itP_cell _⟩ | exact ⟨trivial, by simp; omega, .inr trivial, trivial, itP_cell _⟩ | exact ⟨trivial, by simp; omega, .inl (by decide), trivial, illC_cell _ _⟩ | exact ⟨by omega, trivial, by omega⟩ | exact ⟨trivial, by simp, .inl (by decide), trivial, illC_cell _ _⟩ | exact ⟨trivial, by simp, .inr trivial, trivial, illC_cell _ _⟩ | exact ⟨trivial, by simp, .inr trivial, trivial, itP_cell _⟩)).trans ?_
  refine (if_pos (cdec_true.2 (by simp))).trans ?_
  refine (if_pos (by first | omega | (simp [capOf]; omega) | (simp; done) | (simp; omega) | exact AV.beq_self _ | exact ⟨trivial, trivial, .inr trivial, trivial, itP_cell _⟩ | exact ⟨trivial, by simp; omega, .inr trivial, trivial, itP_cell _⟩ | exact ⟨trivial, by simp; omega, .inl (by decide), trivial, illC_cell _ _⟩ | exact ⟨by omega, trivial, by omega⟩ | exact ⟨trivial, by simp, .inl (by decide), trivial, illC_cell _ _⟩ | exact ⟨trivial, by simp, .inr trivial, trivial, illC_cell _ _⟩ | exact ⟨trivial, by simp, .inr trivial, trivial, itP_cell _⟩)).trans ?_
  refine (if_pos (by first | omega | (simp [capOf]; omega) | (simp; done) | (simp; omega) | exact AV.beq_self _ | exact ⟨trivial, trivial, .inr trivial, trivial, itP_cell _⟩ | exact ⟨trivial, by simp; omega, .inr trivial, trivial, itP_cell _⟩ | exact ⟨trivial, by simp; omega, .inl (by decide), trivial, illC_cell _ _⟩ | exact ⟨by omega, trivial, by omega⟩ | exact ⟨trivial, by simp, .inl (by decide), trivial, illC_cell _ _⟩ | exact ⟨trivial, by simp, .inr trivial, trivial, illC_cell _ _⟩ | exact ⟨trivial, by simp, .inr trivial, trivial, itP_cell _⟩)).trans ?_
  refine (if_pos (by first | omega | (simp [capOf]; omega) | (simp; done) | (simp; omega) | exact AV.beq_self _ | exact ⟨trivial, trivial, .inr trivial, trivial, itP_cell _⟩ | exact ⟨trivial, by simp; omega, .inr trivial, trivial, itP_cell _⟩ | exact ⟨trivial, by simp; omega, .inl (by decide), trivial, illC_cell _ _⟩ | exact ⟨by omega, trivial, by omega⟩ | exact ⟨trivial, by simp, .inl (by decide), trivial, illC_cell _ _⟩ | exact ⟨trivial, by simp, .inr trivial, trivial, illC_cell _ _⟩ | exact ⟨trivial, by simp, .inr trivial, trivial, itP_cell _⟩)).trans ?_
  refine (if_pos (by first | omega | (simp [capOf]; omega) | (simp; done) | (simp; omega) | exact AV.beq_self _ | exact ⟨trivial, trivial, .inr trivial, trivial, itP_cell _⟩ | exact ⟨trivial, by simp; omega, .inr trivial, trivial, itP_cell _⟩ | exact ⟨trivial, by simp; omega, .inl (by decide), trivial, illC_cell _ _⟩ | exact ⟨by omega, trivial, by omega⟩ | exact ⟨trivial, by simp, .inl (by decide), trivial, illC_cell _ _⟩ | exact ⟨trivial, by simp, .inr trivial, trivial, illC_cell _ _⟩ | exact ⟨trivial, by simp, .inr trivial, trivial, itP_cell _⟩)).trans ?_
  refine (if_pos (by first | omega | (simp [capOf]; omega) | (simp; done) | (simp; omega) | exact AV.beq_self _ | exact ⟨trivial, trivial, .inr trivial, trivial, itP_cell _⟩ | exact ⟨trivial, by simp; omega, .inr trivial, trivial, itP_cell _⟩ | exact ⟨trivial, by simp; omega, .inl (by decide), trivial, illC_cell _ _⟩ | exact ⟨by omega, trivial, by omega⟩ | exact ⟨trivial, by simp, .inl (by decide), trivial, illC_cell _ _⟩ | exact ⟨trivial, by simp, .inr trivial, trivial, illC_cell _ _⟩ | exact ⟨trivial, by simp, .inr trivial, trivial, itP_cell _⟩)).trans ?_
  refine (if_pos (by first | omega | (simp [capOf]; omega) | (simp; done) | (simp; omega) | exact AV.beq_self _ | exact ⟨trivial, trivial, .inr trivial, trivial, itP_cell _⟩ | exact ⟨trivial, by simp; omega, .inr trivial, trivial, itP_cell _⟩ | exact ⟨trivial, by simp; omega, .inl (by decide), trivial, illC_cell _ _⟩ | exact ⟨by omega, trivial, by omega⟩ | exact ⟨trivial, by simp, .inl (by decide), trivial, illC_cell _ _⟩ | exact ⟨trivial, by simp, .inr trivial, trivial, illC_cell _ _⟩ | exact ⟨trivial, by simp, .inr trivial, trivial, itP_cell _⟩)).trans ?_
  refine (if_pos (by first | omega | (simp [capOf]; omega) | (simp; done) | (simp; omega) | exact AV.beq_self _ | exact ⟨trivial, trivial, .inr trivial, trivial, itP_cell _⟩ | exact ⟨trivial, by simp; omega, .inr trivial, trivial, itP_cell _⟩ | exact ⟨trivial, by simp; omega, .inl (by decide), trivial, illC_cell _ _⟩ | exact ⟨by omega, trivial, by omega⟩ | exact ⟨trivial, by simp, .inl (by decide), trivial, illC_cell _ _⟩ | exact ⟨trivial, by simp, .inr trivial, trivial, illC_cell _ _⟩ | exact ⟨trivial, by simp, .inr trivial, trivial, itP_cell _⟩)).trans ?_
  refine (if_pos (by first | omega | (simp [capOf]; omega) | (simp; done) | (simp; omega) | exact AV.beq_self _ | exact ⟨trivial, trivial, .inr trivial, trivial, itP_cell _⟩ | exact ⟨trivial, by simp; omega, .inr trivial, trivial, itP_cell _⟩ | exact ⟨trivial, by simp; omega, .inl (by decide), trivial, illC_cell _ _⟩ | exact ⟨by omega, trivial, by omega⟩ | exact ⟨trivial, by simp, .inl (by decide), trivial, illC_cell _ _⟩ | exact ⟨trivial, by simp, .inr trivial, trivial, illC_cell _ _⟩ | exact ⟨trivial, by simp, .inr trivial, trivial, itP_cell _⟩)).trans ?_
  refine (if_pos (by first | omega | (simp [capOf]; omega) | (simp; done) | (simp; omega) | exact AV.beq_self _ | exact ⟨trivial, trivial, .inr trivial, trivial, itP_cell _⟩ | exact ⟨trivial, by simp; omega, .inr trivial, trivial, itP_cell _⟩ | exact ⟨trivial, by simp; omega, .inl (by decide), trivial, illC_cell _ _⟩ | exact ⟨by omega, trivial, by omega⟩ | exact ⟨trivial, by simp, .inl (by decide), trivial, illC_cell _ _⟩ | exact ⟨trivial, by simp, .inr trivial, trivial, illC_cell _ _⟩ | exact ⟨trivial, by simp, .inr trivial, trivial, itP_cell _⟩)).trans ?_
  refine (if_pos (by first | omega | (simp [capOf]; omega) | (simp; done) | (simp; omega) | exact AV.beq_self _ | exact ⟨trivial, trivial, .inr trivial, trivial, itP_cell _⟩ | exact ⟨trivial, by simp; omega, .inr trivial, trivial, itP_cell _⟩ | exact ⟨trivial, by simp; omega, .inl (by decide), trivial, illC_cell _ _⟩ | exact ⟨by omega, trivial, by omega⟩ | exact ⟨trivial, by simp, .inl (by decide), trivial, illC_cell _ _⟩ | exact ⟨trivial, by simp, .inr trivial, trivial, illC_cell _ _⟩ | exact ⟨trivial, by simp, .inr trivial, trivial, itP_cell _⟩)).trans ?_
  refine (if_pos (cdec_true.2 (.mk (outP P r ++ [P[r]]) Y n _ _ _ (rowDs_blk rfl rfl) (rowP_blk rfl (by simp)) Z _ 0 hZ rfl g0))).trans ?_
  refine (if_pos (by first | omega | (simp [capOf]; omega) | (simp; done) | (simp; omega) | exact AV.beq_self _ | exact ⟨trivial, trivial, .inr trivial, trivial, itP_cell _⟩ | exact ⟨trivial, by simp; omega, .inr trivial, trivial, itP_cell _⟩ | exact ⟨trivial, by simp; omega, .inl (by decide), trivial, illC_cell _ _⟩ | exact ⟨by omega, trivial, by omega⟩ | exact ⟨trivial, by simp, .inl (by decide), trivial, illC_cell _ _⟩ | exact ⟨trivial, by simp, .inr trivial, trivial, illC_cell _ _⟩ | exact ⟨trivial, by simp, .inr trivial, trivial, itP_cell _⟩)).trans ?_
  refine (if_pos (by first | omega | (simp [capOf]; omega) | (simp; done) | (simp; omega) | exact AV.beq_self _ | exact ⟨trivial, trivial, .inr trivial, trivial, itP_cell _⟩ | exact ⟨trivial, by simp; omega, .inr trivial, trivial, itP_cell _⟩ | exact ⟨trivial, by simp; omega, .inl (by decide), trivial, illC_cell _ _⟩ | exact ⟨by omega, trivial, by omega⟩ | exact ⟨trivial, by simp, .inl (by decide), trivial, illC_cell _ _⟩ | exact ⟨trivial, by simp, .inr trivial, trivial, illC_cell _ _⟩ | exact ⟨trivial, by simp, .inr trivial, trivial, itP_cell _⟩)).trans ?_
  refine (if_pos (by first | omega | (simp [capOf]; omega) | (simp; done) | (simp; omega) | exact AV.beq_self _ | exact ⟨trivial, trivial, .inr trivial, trivial, itP_cell _⟩ | exact ⟨trivial, by simp; omega, .inr trivial, trivial, itP_cell _⟩ | exact ⟨trivial, by simp; omega, .inl (by decide), trivial, illC_cell _ _⟩ | exact ⟨by omega, trivial, by omega⟩ | exact ⟨trivial, by simp, .inl (by decide), trivial, illC_cell _ _⟩ | exact ⟨trivial, by simp, .inr trivial, trivial, illC_cell _ _⟩ | exact ⟨trivial, by simp, .inr trivial, trivial, itP_cell _⟩)).trans ?_
  refine (if_pos (by first | omega | (simp [capOf]; omega) | (simp; done) | (simp; omega) | exact AV.beq_self _ | exact ⟨trivial, trivial, .inr trivial, trivial, itP_cell _⟩ | exact ⟨trivial, by simp; omega, .inr trivial, trivial, itP_cell _⟩ | exact ⟨trivial, by simp; omega, .inl (by decide), trivial, illC_cell _ _⟩ | exact ⟨by omega, trivial, by omega⟩ | exact ⟨trivial, by simp, .inl (by decide), trivial, illC_cell _ _⟩ | exact ⟨trivial, by simp, .inr trivial, trivial, illC_cell _ _⟩ | exact ⟨trivial, by simp, .inr trivial, trivial, itP_cell _⟩)).trans ?_
  refine (if_neg (by first | omega | (simp [capOf]; omega) | (simp; done) | (simp; omega) | exact AV.beq_self _ | exact ⟨trivial, trivial, .inr trivial, trivial, itP_cell _⟩ | exact ⟨trivial, by simp; omega, .inr trivial, trivial, itP_cell _⟩ | exact ⟨trivial, by simp; omega, .inl (by decide), trivial, illC_cell _ _⟩ | exact ⟨by omega, trivial, by omega⟩ | exact ⟨trivial, by simp, .inl (by decide), trivial, illC_cell _ _⟩ | exact ⟨trivial, by simp, .inr trivial, trivial, illC_cell _ _⟩ | exact ⟨trivial, by simp, .inr trivial, trivial, itP_cell _⟩)).trans ?_
  refine (if_pos (by first | omega | (simp [capOf]; omega) | (simp; done) | (simp; omega) | exact AV.beq_self _ | exact ⟨trivial, trivial, .inr trivial, trivial, itP_cell _⟩ | exact ⟨trivial, by simp; omega, .inr trivial, trivial, itP_cell _⟩ | exact ⟨trivial, by simp; omega, .inl (by decide), trivial, illC_cell _ _⟩ | exact ⟨by omega, trivial, by omega⟩ | exact ⟨trivial, by simp, .inl (by decide), trivial, illC_cell _ _⟩ | exact ⟨trivial, by simp, .inr trivial, trivial, illC_cell _ _⟩ | exact ⟨trivial, by simp, .inr trivial, trivial, itP_cell _⟩)).trans ?_
  refine (if_pos (cdec_true.2 (by simp))).trans ?_
  refine (if_pos (by first | omega | (simp [capOf]; omega) | (simp; done) | (simp; omega) | exact AV.beq_self _ | exact ⟨trivial, trivial, .inr trivial, trivial, itP_cell _⟩ | exact ⟨trivial, by simp; omega, .inr trivial, trivial, itP_cell _⟩ | exact ⟨trivial, by simp; omega, .inl (by decide), trivial, illC_cell _ _⟩ | exact ⟨by omega, trivial, by omega⟩ | exact ⟨trivial, by simp, .inl (by decide), trivial, illC_cell _ _⟩ | exact ⟨trivial, by simp, .inr trivial, trivial, illC_cell _ _⟩ | exact ⟨trivial, by simp, .inr trivial, trivial, itP_cell _⟩)).trans ?_
  refine (if_pos (by first | omega | (simp [capOf]; omega) | (simp; done) | (simp; omega) | exact AV.beq_self _ | exact ⟨trivial, trivial, .inr trivial, trivial, itP_cell _⟩ | exact ⟨trivial, by simp; omega, .inr trivial, trivial, itP_cell _⟩ | exact ⟨trivial, by simp; omega, .inl (by decide), trivial, illC_cell _ _⟩ | exact ⟨by omega, trivial, by omega⟩ | exact ⟨trivial, by simp, .inl (by decide), trivial, illC_cell _ _⟩ | exact ⟨trivial, by simp, .inr trivial, trivial, illC_cell _ _⟩ | exact ⟨trivial, by simp, .inr trivial, trivial, itP_cell _⟩)).trans ?_
  refine (if_pos (cdec_true.2 (by rw [U2] at U1; exact U1))).trans ?_
  refine (if_neg (by first | omega | (simp [capOf]; omega) | (simp; done) | (simp; omega) | exact AV.beq_self _ | exact ⟨trivial, trivial, .inr trivial, trivial, itP_cell _⟩ | exact ⟨trivial, by simp; omega, .inr trivial, trivial, itP_cell _⟩ | exact ⟨trivial, by simp; omega, .inl (by decide), trivial, illC_cell _ _⟩ | exact ⟨by omega, trivial, by omega⟩ | exact ⟨trivial, by simp, .inl (by decide), trivial, illC_cell _ _⟩ | exact ⟨trivial, by simp, .inr trivial, trivial, illC_cell _ _⟩ | exact ⟨trivial, by simp, .inr trivial, trivial, itP_cell _⟩)).trans ?_
  refine (if_pos (by first | omega | (simp [capOf]; omega) | (simp; done) | (simp; omega) | exact AV.beq_self _ | exact ⟨trivial, trivial, .inr trivial, trivial, itP_cell _⟩ | exact ⟨trivial, by simp; omega, .inr trivial, trivial, itP_cell _⟩ | exact ⟨trivial, by simp; omega, .inl (by decide), trivial, illC_cell _ _⟩ | exact ⟨by omega, trivial, by omega⟩ | exact ⟨trivial, by simp, .inl (by decide), trivial, illC_cell _ _⟩ | exact ⟨trivial, by simp, .inr trivial, trivial, illC_cell _ _⟩ | exact ⟨trivial, by simp, .inr trivial, trivial, itP_cell _⟩)).trans ?_
  refine (if_pos (by first | omega | (simp [capOf]; omega) | (simp; done) | (simp; omega) | exact AV.beq_self _ | exact ⟨trivial, trivial, .inr trivial, trivial, itP_cell _⟩ | exact ⟨trivial, by simp; omega, .inr trivial, trivial, itP_cell _⟩ | exact ⟨trivial, by simp; omega, .inl (by decide), trivial, illC_cell _ _⟩ | exact ⟨by omega, trivial, by omega⟩ | exact ⟨trivial, by simp, .inl (by decide), trivial, illC_cell _ _⟩ | exact ⟨trivial, by simp, .inr trivial, trivial, illC_cell _ _⟩ | exact ⟨trivial, by simp, .inr trivial, trivial, itP_cell _⟩)).trans ?_
  refine (if_pos (by first | omega | (simp [capOf]; omega) | (simp; done) | (simp; omega) | exact AV.beq_self _ | exact ⟨trivial, trivial, .inr trivial, trivial, itP_cell _⟩ | exact ⟨trivial, by simp; omega, .inr trivial, trivial, itP_cell _⟩ | exact ⟨trivial, by simp; omega, .inl (by decide), trivial, illC_cell _ _⟩ | exact ⟨by omega, trivial, by omega⟩ | exact ⟨trivial, by simp, .inl (by decide), trivial, illC_cell _ _⟩ | exact ⟨trivial, by simp, .inr trivial, trivial, illC_cell _ _⟩ | exact ⟨trivial, by simp, .inr trivial, trivial, itP_cell _⟩)).trans ?_
  refine (if_pos (cdec_true.2 (by rw [U2] at U1; exact U1))).trans ?_
  refine (if_neg (by first | omega | (simp [capOf]; omega) | (simp; done) | (simp; omega) | exact AV.beq_self _ | exact ⟨trivial, trivial, .inr trivial, trivial, itP_cell _⟩ | exact ⟨trivial, by simp; omega, .inr trivial, trivial, itP_cell _⟩ | exact ⟨trivial, by simp; omega, .inl (by decide), trivial, illC_cell _ _⟩ | exact ⟨by omega, trivial, by omega⟩ | exact ⟨trivial, by simp, .inl (by decide), trivial, illC_cell _ _⟩ | exact ⟨trivial, by simp, .inr trivial, trivial, illC_cell _ _⟩ | exact ⟨trivial, by simp, .inr trivial, trivial, itP_cell _⟩)).trans ?_
  refine (if_pos (by first | omega | (simp [capOf]; omega) | (simp; done) | (simp; omega) | exact AV.beq_self _ | exact ⟨trivial, trivial, .inr trivial, trivial, itP_cell _⟩ | exact ⟨trivial, by simp; omega, .inr trivial, trivial, itP_cell _⟩ | exact ⟨trivial, by simp; omega, .inl (by decide), trivial, illC_cell _ _⟩ | exact ⟨by omega, trivial, by omega⟩ | exact ⟨trivial, by simp, .inl (by decide), trivial, illC_cell _ _⟩ | exact ⟨trivial, by simp, .inr trivial, trivial, illC_cell _ _⟩ | exact ⟨trivial, by simp, .inr trivial, trivial, itP_cell _⟩)).trans ?_
  refine (if_pos (cdec_true.2 (by rw [V2] at V1; exact V1))).trans ?_
  refine (if_pos (by first | omega | (simp [capOf]; omega) | (simp; done) | (simp; omega) | exact AV.beq_self _ | exact ⟨trivial, trivial, .inr trivial, trivial, itP_cell _⟩ | exact ⟨trivial, by simp; omega, .inr trivial, trivial, itP_cell _⟩ | exact ⟨trivial, by simp; omega, .inl (by decide), trivial, illC_cell _ _⟩ | exact ⟨by omega, trivial, by omega⟩ | exact ⟨trivial, by simp, .inl (by decide), trivial, illC_cell _ _⟩ | exact ⟨trivial, by simp, .inr trivial, trivial, illC_cell _ _⟩ | exact ⟨trivial, by simp, .inr trivial, trivial, itP_cell _⟩)).trans ?_
  refine (if_pos (by first | omega | (simp [capOf]; omega) | (simp; done) | (simp; omega) | exact AV.beq_self _ | exact ⟨trivial, trivial, .inr trivial, trivial, itP_cell _⟩ | exact ⟨trivial, by simp; omega, .inr trivial, trivial, itP_cell _⟩ | exact ⟨trivial, by simp; omega, .inl (by decide), trivial, illC_cell _ _⟩ | exact ⟨by omega, trivial, by omega⟩ | exact ⟨trivial, by simp, .inl (by decide), trivial, illC_cell _ _⟩ | exact ⟨trivial, by simp, .inr trivial, trivial, illC_cell _ _⟩ | exact ⟨trivial, by simp, .inr trivial, trivial, itP_cell _⟩)).trans ?_
  refine (if_pos (cdec_true.2 (by rw [U2] at U1; exact U1))).trans ?_
  refine (if_pos (by first | omega | (simp [capOf]; omega) | (simp; done) | (simp; omega) | exact AV.beq_self _ | exact ⟨trivial, trivial, .inr trivial, trivial, itP_cell _⟩ | exact ⟨trivial, by simp; omega, .inr trivial, trivial, itP_cell _⟩ | exact ⟨trivial, by simp; omega, .inl (by decide), trivial, illC_cell _ _⟩ | exact ⟨by omega, trivial, by omega⟩ | exact ⟨trivial, by simp, .inl (by decide), trivial, illC_cell _ _⟩ | exact ⟨trivial, by simp, .inr trivial, trivial, illC_cell _ _⟩ | exact ⟨trivial, by simp, .inr trivial, trivial, itP_cell _⟩)).trans ?_
  refine (if_pos (by first | omega | (simp [capOf]; omega) | (simp; done) | (simp; omega) | exact AV.beq_self _ | exact ⟨trivial, trivial, .inr trivial, trivial, itP_cell _⟩ | exact ⟨trivial, by simp; omega, .inr trivial, trivial, itP_cell _⟩ | exact ⟨trivial, by simp; omega, .inl (by decide), trivial, illC_cell _ _⟩ | exact ⟨by omega, trivial, by omega⟩ | exact ⟨trivial, by simp, .inl (by decide), trivial, illC_cell _ _⟩ | exact ⟨trivial, by simp, .inr trivial, trivial, illC_cell _ _⟩ | exact ⟨trivial, by simp, .inr trivial, trivial, itP_cell _⟩)).trans ?_
  refine (if_pos (by first | omega | (simp [capOf]; omega) | (simp; done) | (simp; omega) | exact AV.beq_self _ | exact ⟨trivial, trivial, .inr trivial, trivial, itP_cell _⟩ | exact ⟨trivial, by simp; omega, .inr trivial, trivial, itP_cell _⟩ | exact ⟨trivial, by simp; omega, .inl (by decide), trivial, illC_cell _ _⟩ | exact ⟨by omega, trivial, by omega⟩ | exact ⟨trivial, by simp, .inl (by decide), trivial, illC_cell _ _⟩ | exact ⟨trivial, by simp, .inr trivial, trivial, illC_cell _ _⟩ | exact ⟨trivial, by simp, .inr trivial, trivial, itP_cell _⟩)).trans ?_
  rfl

end Go.Proofs.Ytlppbeoiphglcaa.L
