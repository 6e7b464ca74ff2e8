/- SlotsShares' run. -/
import Derived.Test.YtlppbeoiphglcaaSlotsSharesN
set_option autoImplicit false
set_option maxRecDepth 100000
set_option linter.unusedVariables false
set_option linter.unusedSimpArgs false
namespace Go.Proofs.Ytlppbeoiphglcaa.L
open Go Go.Abs

theorem itP_w {P : PL} {i : Nat} (hi : i < P.length) : (itP P)[0 + (i : Int).toNat * 19 + 18]? = some (.int .i64 P[i].2) := by
  rw [show 0 + (i : Int).toNat * 19 + 18 = i * 19 + 18 by omega]; exact itP_n hi
structure SSx (P : PL) (n : Int) (L : List Int) (X : List DipC) : Prop where
  hc : chkP P = 0
  hp : 0 < P.length
  h1 : 1 ≤ n
  h2 : n ≤ 64
  hL : shP P n = L
  ll : L.length = P.length
  nn : ∀ x ∈ L, 0 ≤ x
  sm : sumL L = n
  cn : ∀ k (hk : k < P.length), (cntD X P[k].1 : Int) = L.getD k 0
  xl : (X.length : Int) = n
variable {P : PL} {n : Int} {L : List Int} {X : List DipC} {W : List AV}
theorem SSx.le (H : SSx P n L X) {i : Nat} (hi : i < P.length) : 0 ≤ L[i]'(by rw [H.ll]; exact hi) ∧ L[i]'(by rw [H.ll]; exact hi) ≤ 64 := by
  have a := H.nn _ (List.getElem_mem (show i < L.length by rw [H.ll]; exact hi))
  have b := mem_le_sum H.nn _ (List.getElem_mem (show i < L.length by rw [H.ll]; exact hi))
  have := H.sm
  have := H.h2
  omega
theorem stepSS1 (H : SSx P n L X) {i : Nat} (hi : i < P.length) :
    qround Try.prog tSSL 100 4 [(64, .bool true)] noT SS1 mSS1 (vSS1 n P.length P.length X.length (sumL ((P.map Prod.snd).take i)) (sumL (L.take i)) i) (hSS W (itP P) (intL L) (dipsC X)) = some (.norm, vSS1 n P.length P.length X.length (sumL ((P.map Prod.snd).take (i + 1))) (sumL (L.take (i + 1))) ((i + 1 : Nat) : Int), hSS W (itP P) (intL L) (dipsC X)) := by
  have hl := chk_len H.hc
  have hb := sumW_bd H.hc i (by omega)
  have hw := chk_w H.hc hi
  have hs : sumL ((P.map Prod.snd).take (i + 1)) = sumL ((P.map Prod.snd).take i) + P[i].2 := by
    rw [sumL_take (by simpa using hi)]; simp
  have hiL : i < L.length := by rw [H.ll]; exact hi
  have ht := sumL_take hiL
  have hle := H.le hi
  have hlb := sumL_bd (l := L.take i) (B := 64) fun x hx => by
    have hx := List.mem_of_mem_take hx
    obtain ⟨k, hk, rfl⟩ := List.mem_iff_getElem.1 hx
    exact H.le (by rw [← H.ll]; exact hk)
  have : (L.take i).length = i := by simp; omega
  rw [this] at hlb
  have a1 : IntKind.i64.wrap (sumL ((P.map Prod.snd).take i) + P[i].2) = sumL ((P.map Prod.snd).take (i + 1)) := by rw [hs, wrapI64 (by omega)]
  have a2 : IntKind.i64.wrap (sumL (L.take i) + L[i]) = sumL (L.take (i + 1)) := by rw [ht, wrapI64 (by omega)]
  have b1 : intV (some (.int .i64 P[i].2)) = P[i].2 := rfl
  have b2 : intV (some (.int .i64 L[i])) = L[i] := rfl
  refine (nfSS1a ..).trans ?_
  simp only [itP_w hi, intL_at hiL, b1, b2, a1, a2, wrap1 (i := i) (by omega)]
  refine (if_pos (by simp; omega)).trans ?_
  refine (if_pos (by omega)).trans ?_
  refine (if_pos rfl).trans ?_
  refine (if_pos (by omega)).trans ?_
  refine (if_pos rfl).trans ?_
  rfl
theorem saysSS3 (H : SSx P n L X) {u : Int} {i : Nat} (hi : i < P.length) :
    LSays bSS3 4 (vSS3 n P.length P.length X.length u i 0) (hSS W (itP P) (intL L) (dipsC X)) (.exit 4) (vSS3 n P.length P.length X.length u i P.length) (hSS W (itP P) (intL L) (dipsC X)) := by
  have hl := chk_len H.hc
  refine says_up (fun j => vSS3 n P.length P.length X.length u i (j : Nat)) (N := P.length) (by simp) rfl rfl (fun j hj => ⟨[(129, .bool true), (153, .bool false)], ?_⟩) ⟨[(129, .bool false)], (nfSS3s ..).trans (if_pos (by simp))⟩
  have hiL : i < L.length := by rw [H.ll]; exact hi
  have hjL : j < L.length := by rw [H.ll]; exact hj
  have b1 : intV (some (.int .i64 P[i].2)) = P[i].2 := rfl
  have b2 : intV (some (.int .i64 P[j].2)) = P[j].2 := rfl
  have b3 : intV (some (.int .i64 L[i])) = L[i] := rfl
  have b4 : intV (some (.int .i64 L[j])) = L[j] := rfl
  refine (nfSS3a ..).trans ?_
  simp only [itP_w hi, itP_w hj, intL_at hiL, intL_at hjL, b1, b2, b3, b4, wrap1 (i := j) (by omega)]
  refine (if_pos (by simp; omega)).trans ?_
  refine (if_pos (by omega)).trans ?_
  refine (if_pos rfl).trans ?_
  refine (if_pos (by omega)).trans ?_
  refine (if_pos rfl).trans ?_
  by_cases hw : P[i].2 < P[j].2
  · have := sh_more H.hc H.hp H.h1 H.h2 hi hj hw
    rw [H.hL, getD_at hiL, getD_at hjL] at this
    refine (if_pos (by simpa using hw)).trans ?_
    refine (if_pos (by omega)).trans ?_
    refine (if_pos rfl).trans ?_
    refine (if_pos (by omega)).trans ?_
    refine (if_pos rfl).trans ?_
    refine (if_pos (by simpa using this)).trans ?_
    rfl
  · refine (if_neg (by simpa using hw)).trans ?_
    rfl
theorem stepSS2 (H : SSx P n L X) {i : Nat} (hi : i < P.length) :
    qround Try.prog tSSL 100 4 [(86, .bool true), (125, .bool false)] lsSS SS2 mSS2 (vSS2 n P.length P.length X.length (sumW P) i) (hSS W (itP P) (intL L) (dipsC X)) = some (.norm, vSS2 n P.length P.length X.length (sumW P) ((i + 1 : Nat) : Int), hSS W (itP P) (intL L) (dipsC X)) := by
  have hl := chk_len H.hc
  have hiL : i < L.length := by rw [H.ll]; exact hi
  have b1 : intV (some (.int .i64 P[i].2)) = P[i].2 := rfl
  have b3 : intV (some (.int .i64 L[i])) = L[i] := rfl
  have hs := sumW_pos H.hc H.hp
  have hle := H.le hi
  have h1 := H.h1
  have h2 := H.h2
  have hpart := sh_part (n := n) H.hc H.hp (by omega) H.h2 hi
  rw [H.hL, getD_at hiL] at hpart
  have m1 : 0 ≤ L[i] * sumW P ∧ L[i] * sumW P ≤ 64 * 512 := ⟨Int.mul_nonneg hle.1 (by omega), Int.mul_le_mul hle.2 hs.2 (by omega) (by omega)⟩
  have m2 := nw_bd H.hc (by omega : 0 ≤ n) H.h2 hi
  have w1 : IntKind.i64.wrap (L[i] * sumW P) = L[i] * sumW P := wrapI64 (by omega)
  have w2 : IntKind.i64.wrap (n * P[i].2) = n * P[i].2 := wrapI64 (by omega)
  have w3 : IntKind.i64.wrap (L[i] * sumW P - n * P[i].2) = L[i] * sumW P - n * P[i].2 := wrapI64 (by omega)
  have w4 : IntKind.i64.wrap (0 - sumW P) = -sumW P := by rw [wrapI64 (by omega)]; omega
  have e6 : 0 + ((i : Nat) : Int).toNat * 19 + 0 = i * 19 := by omega
  have e7 : List.take 18 (List.drop (i * 19) (itP P)) = P[i].1.cells := itP_18 hi
  have hlP := itP_length P
  have hcn := H.cn i hi
  rw [getD_at hiL] at hcn
  have hxl := H.xl
  obtain ⟨U1, U2⟩ := cnU (D := X) (d := P[i].1) (h := hSS2a0 W (itP P) (intL L) (dipsC X) n P.length P.length X.length (sumW P) i) (a := .sl (some (3, 0)) X.length 0 false) (rowDs_blk rfl rfl) rfl (by omega)
  refine (nfSS2a ..).trans ?_
  simp only [itP_w hi, intL_at hiL, b1, b3, w1, w2, w3, w4, e6, e7, U2, wrap1 (i := i) (by omega)]
  refine (if_pos (by simp; omega)).trans ?_
  refine (if_pos (by omega)).trans ?_
  refine (if_pos rfl).trans ?_
  refine (if_pos (by omega)).trans ?_
  refine (if_pos rfl).trans ?_
  refine (if_neg (by simp; omega)).trans ?_
  refine (if_neg (by simp; omega)).trans ?_
  refine (if_pos (by omega)).trans ?_
  refine (if_pos (by omega)).trans ?_
  refine (if_pos (cdec_true.2 (by rw [U2] at U1; exact U1))).trans ?_
  refine (if_pos (by omega)).trans ?_
  refine (if_pos rfl).trans ?_
  refine (if_pos (by simpa using hcn)).trans ?_
  refine (if_pos rfl).trans ?_
  refine (if_pos (AV.beq_self _)).trans ?_
  refine (if_pos (cdec_true.2 (saysSS3 H hi))).trans ?_
  rfl
theorem runSlotsShares (w : List Int) (n : Int) (hw : ∀ x ∈ w, (Lit.int .i64 x).wf = true) (hn : -9223372036854775808 ≤ n ∧ n < 9223372036854775808) : ∃ h', Runs Try.prog 4 [.sl (some (0, 0)) w.length 0 false, .int .i64 n] [.cells (w.map (AV.int .i64)) 1 .far none] (.bool true) h' := by
  by_cases hb : (w.length : Int) < 1 ∨ (w.length : Int) > 32 ∨ n < 1 ∨ n > 64
  · refine Runs.valT0 (tSSOk _ _ _ _ _ _ _) (F := 100) (n := 4) (pr := [(30, .bool true)]) ((nfSSl ..).trans ?_)
    by_cases h1 : (w.length : Int) < 1
    · exact if_pos (decide_eq_true h1)
    refine (if_neg (by simpa using h1)).trans ?_
    by_cases h2 : (w.length : Int) > 32
    · exact if_pos (decide_eq_true h2)
    refine (if_neg (by simpa using h2)).trans ?_
    by_cases h3 : n < 1
    · exact if_pos (decide_eq_true h3)
    refine (if_neg (by simpa using h3)).trans ?_
    exact if_pos (by simp; omega)
  have hv : ∃ v, (n.tmod 2 == 0) = v := ⟨_, rfl⟩
  obtain ⟨v, hv⟩ := hv
  have hN : min w.length 32 = w.length := by omega
  have hPl : (svP w v).length = w.length := by simp [svP]; omega
  have hc : chkP (svP w v) = 0 := svN_chk w v _ (by omega)
  generalize hP : svP w v = P at *
  have hp : 0 < P.length := by omega
  have hE := fill_ok (P := P) (D := []) (n := n) (by omega) (by omega) hc hp (.inl rfl)
  have hXl := fill_len (P := P) (D := []) (n := n) (by omega) (by omega) hc hp (.inl rfl)
  have hcn := fun k hk => fill_cnt (P := P) (D := []) (n := n) (by omega) (by omega) hc hp (.inl rfl) (k := k) hk
  generalize hX : fillP P [] n = X at *
  obtain ⟨e0, e1, e2, e3, e4, _⟩ := hE
  generalize hL : shP P n = L at *
  have H : SSx P n L X := ⟨hc, hp, by omega, by omega, hL, e2, e3, by omega, hcn, by omega⟩
  have lp : loopsOf (bodyOf Try.prog 4) = [SS1, SS2] := by kernel_rfl
  have hsw : sumL ((P.map Prod.snd).take P.length) = sumW P := by rw [List.take_of_length_le (by simp)]; rfl
  have hsl : sumL (L.take P.length) = n := by rw [List.take_of_length_le (by omega)]; exact H.sm
  have k1 : True → ∃ k, GReach (roundG Try.prog (deepT Try.prog tSSL 100 4) (lsT noT) SS1 mSS1) 4 k (vSS1 n P.length P.length X.length 0 0 0) (hSS (intL w) (itP P) (intL L) (dipsC X)) (.exit 0) (vSS1 n P.length P.length X.length (sumW P) n P.length) (hSS (intL w) (itP P) (intL L) (dipsC X)) := by
    intro _
    refine loop_T (fun i => (vSS1 n P.length P.length X.length (sumL ((P.map Prod.snd).take i)) (sumL (L.take i)) i, hSS (intL w) (itP P) (intL L) (dipsC X))) (N := P.length) (by simp) (fun i hi => ⟨_, _, _, stepSS1 H hi, Gc.refl⟩) ⟨[(64, .bool false)], _, _, (nfSS1s ..).trans (if_pos (by simp)), ?_⟩
    rw [hsw, hsl]; exact Gc.refl
  have k2 : True → ∃ k, GReach (roundG Try.prog (deepT Try.prog tSSL 100 4) (lsT lsSS) SS2 mSS2) 4 k (vSS2 n P.length P.length X.length (sumW P) 0) (hSS (intL w) (itP P) (intL L) (dipsC X)) (.exit 2) (vSS2 n P.length P.length X.length (sumW P) P.length) (hSS (intL w) (itP P) (intL L) (dipsC X)) := by
    intro _
    exact loop_T (fun i => (vSS2 n P.length P.length X.length (sumW P) i, hSS (intL w) (itP P) (intL L) (dipsC X))) (N := P.length) (by simp) (fun i hi => ⟨_, _, _, stepSS2 H hi, Gc.refl⟩) ⟨[(86, .bool false)], _, _, (nfSS2s ..).trans (if_pos (by simp)), Gc.refl⟩
  refine Runs.valT (tSSOk P L X P.length P.length X.length 0) (F := 100) (n := 4) (pr := [(30, .bool false), (60, .bool false), (82, .bool false)]) (both (k := 10) (k2 := 17) lp rfl rfl (by decide) (fixC_T (tSSOk _ _ _ _ _ _ _) (F := 100) (n := 4) (LS := noT) (noLoops (by kernel_rfl)) k1) (fixC_T (tSSOk _ _ _ _ _ _ _) (F := 100) (n := 4) (LS := lsSS) lsSSOk k2)) ?_
  refine (nfSSm ..).trans ?_
  rw [hv]
  refine (if_neg (by simp; omega)).trans ?_
  refine (if_neg (by simp; omega)).trans ?_
  refine (if_neg (by simp; omega)).trans ?_
  refine (if_pos (by simp; omega)).trans ?_
  refine (if_pos (cdec_true.2 (.mk w v _ _ (rowI_blk rfl rfl) P _ hP rfl))).trans ?_
  refine (if_pos (cdec_true.2 (.mk P n _ _ (rowP_blk rfl rfl) L _ hL H.ll.symm))).trans ?_
  refine (if_pos (cdec_true.2 (.mk P [] n _ _ _ (rowDs_nil _ _) (rowP_blk rfl rfl) X _ 0 hX rfl e0))).trans ?_
  refine (if_neg (by decide)).trans ?_
  refine (if_neg (by simp)).trans ?_
  refine (if_pos (by simpa using H.xl)).trans ?_
  refine (if_pos (cdec_true.2 ⟨trivial, rfl, rfl⟩)).trans ?_
  refine (if_pos (by simp)).trans ?_
  refine (if_pos (cdec_true.2 ⟨trivial, rfl, rfl⟩)).trans ?_
  rfl

end Go.Proofs.Ytlppbeoiphglcaa.L
