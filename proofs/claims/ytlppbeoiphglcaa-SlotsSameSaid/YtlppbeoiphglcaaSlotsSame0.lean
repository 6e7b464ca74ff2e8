/- SlotsSame's run. -/
import Derived.Test.YtlppbeoiphglcaaSlotsSameN
import Derived.Test.YtlppbeoiphglcaaShE
set_option autoImplicit false
set_option maxRecDepth 100000
set_option linter.unusedVariables false
set_option linter.unusedSimpArgs false
namespace Go.Proofs.Ytlppbeoiphglcaa.L
open Go Go.Abs

def mixP (P : PL) (c : Int) (i : Nat) : PL := (P.take i).map (fun x => (x.1, c)) ++ P.drop i
@[simp] theorem mixP_len (P : PL) (c : Int) (i : Nat) : (mixP P c i).length = P.length := by simp [mixP]; omega
theorem mixP_set {P : PL} {c : Int} {i : Nat} (hi : i < P.length) : (mixP P c i).set i (((mixP P c i)[i]'(by simpa using hi)).1, c) = mixP P c (i + 1) := by
  have hg : (mixP P c i)[i]'(by simpa using hi) = P[i] := by
    unfold mixP
    rw [List.getElem_append_right (by simp; omega)]
    simp; congr 1; omega
  rw [hg]
  have hl : ((P.take i).map fun x => (x.1, c)).length = i := by simp; omega
  unfold mixP
  rw [take_snoc hi, List.map_append, List.drop_eq_getElem_cons hi, List.set_append_right _ _ (by omega), hl, Nat.sub_self, List.set_cons_zero, List.append_assoc]
  rfl
theorem mixP_0 {P : PL} {c : Int} {i : Nat} (hp : 0 < P.length) (hc : P[0].2 = c) : ((mixP P c i)[0]'(by simpa using hp)).2 = c := by
  unfold mixP
  cases i with
  | zero => simpa using hc
  | succ i => rw [List.getElem_append_left (by simp; omega)]; simp
theorem mixP_all (P : PL) (c : Int) : mixP P c P.length = P.map fun x => (x.1, c) := by simp [mixP]
variable {P : PL} {n : Int} {X Y : List DipC} {W : List AV}
theorem stepSM1 {c : Int} (hl : P.length ≤ 32) (hp : 0 < P.length) (hc : P[0].2 = c) {i : Nat} (hi : i < P.length) :
    qround Try.prog tSML 100 4 [(66, .bool true)] noT SM1 mSM1 (vSM1 n P.length i) (hSM W (itP (mixP P c i)) (dipsC X) (dipsC Y)) = some (.norm, vSM1 n P.length ((i + 1 : Nat) : Int), hSM W (itP (mixP P c (i + 1))) (dipsC X) (dipsC Y)) := by
  have e1 : (itP (mixP P c i))[18]? = some (.int .i64 c) := by
    have := itP_n (P := mixP P c i) (i := 0) (by simpa using hp)
    rw [mixP_0 hp hc] at this
    simpa using this
  have e2 : intV (some (.int .i64 c)) = c := rfl
  have e3 : putCells (itP (mixP P c i)) (0 + (i : Int).toNat * 19 + 18) [.int .i64 c] = itP (mixP P c (i + 1)) := by
    rw [show 0 + (i : Int).toNat * 19 + 18 = i * 19 + 18 by omega, itP_set (by simpa using hi), mixP_set hi]
  have hlP := itP_length (mixP P c i)
  rw [mixP_len] at hlP
  refine (nfSM1a ..).trans ?_
  unfold hSM1a0
  simp only [e1, e2, e3, wrap1 (i := i) (by omega)]
  refine (if_pos (by simp; omega)).trans ?_
  refine (if_pos ⟨by decide, by omega⟩).trans ?_
  refine (if_pos rfl).trans ?_
  refine (if_pos (by omega)).trans ?_
  refine (if_pos ⟨by simp; omega, rfl⟩).trans ?_
  rfl
theorem stepSM2 {C : List AV} {L : List Int} {k : Nat} (hk : 0 < k ∧ k ≤ 32) (h1 : 1 ≤ n) (h2 : n ≤ 64) (hl : L.length = k) (hg : ∀ i, i < k → L.getD i 0 = n / k + if (i : Int) < n % k then 1 else 0) {i : Nat} (hi : i < k) :
    qround Try.prog tSML 100 4 [(88, .bool true), (127, .bool false)] noT SM2 mSM2 (vSM2 n k k i) (hSM W C (dipsC X) (dipsC Y) ++ [.cells (intL L) 1 .own none]) = some (.norm, vSM2 n k k ((i + 1 : Nat) : Int), hSM W C (dipsC X) (dipsC Y) ++ [.cells (intL L) 1 .own none]) := by
  have hiL : i < L.length := by omega
  have d1 : n.tdiv k = n / k := Int.tdiv_eq_ediv_of_nonneg (by omega)
  have d2 := Int.ediv_le_self (b := (k : Int)) (a := n) (by omega)
  have d3 : 0 ≤ n / k := Int.ediv_nonneg (by omega) (by omega)
  have w1 : IntKind.i64.wrap (n / k) = n / k := wrapI64 (by omega)
  have w2 : IntKind.i64.wrap (n / k + 1) = n / k + 1 := wrapI64 (by omega)
  have b1 : intV (some (.int .i64 L[i])) = L[i] := rfl
  have g1 := hg i hi
  rw [getD_at hiL] at g1
  have hk0 : ¬ (k : Int) = 0 := by omega
  have last : ∀ {z : Option (AEx × List AV × AHeap)}, (if decide ((i : Int) > 0) = true then
                (if 0 ≤ (i : Int) ∧ (i : Int) < (k : Int) then
                  (if isIntV IntKind.i64 (some (AV.int .i64 L[i])) = true then
                    (if 0 ≤ IntKind.i64.wrap ((i : Int) - 1) ∧ IntKind.i64.wrap ((i : Int) - 1) < (k : Int) then
                      (if isIntV IntKind.i64 (intL L)[0 + (IntKind.i64.wrap ((i : Int) - 1)).toNat * 1]? = true then
                        (if decide (L[i] > intV (intL L)[0 + (IntKind.i64.wrap ((i : Int) - 1)).toNat * 1]?) = false then z
                        else none)
                      else none)
                    else none)
                  else none)
                else none)
              else z) = z := by
    intro z
    by_cases h0 : i = 0
    · subst h0; exact if_neg (by simp)
    · have e1 : IntKind.i64.wrap ((i : Int) - 1) = ((i - 1 : Nat) : Int) := by rw [wrapI64 (by omega)]; omega
      have hjL : i - 1 < L.length := by omega
      have g2 := hg (i - 1) (by omega)
      rw [getD_at hjL] at g2
      have b2 : intV (some (.int .i64 L[i - 1])) = L[i - 1] := rfl
      simp only [e1, intL_at hjL, b2]
      refine (if_pos (by simp; omega)).trans ?_
      refine (if_pos (by omega)).trans ?_
      refine (if_pos rfl).trans ?_
      refine (if_pos (by omega)).trans ?_
      refine (if_pos rfl).trans ?_
      refine if_pos ?_
      simp only [decide_eq_false_iff_not]
      rw [g1, g2]
      split <;> split <;> omega
  refine (nfSM2a ..).trans ?_
  simp only [intL_at hiL, b1, d1, w1, w2, wrap1 (i := i) (by omega), last]
  refine (if_pos (by simp; omega)).trans ?_
  refine (if_pos (by omega)).trans ?_
  refine (if_pos rfl).trans ?_
  refine (if_neg hk0).trans ?_
  by_cases hq : L[i] = n / k
  · refine (if_neg (by simpa using hq)).trans ?_
    rfl
  · refine (if_pos (by simpa using hq)).trans ?_
    refine (if_pos (by omega)).trans ?_
    refine (if_pos rfl).trans ?_
    refine (if_neg hk0).trans ?_
    refine (if_neg (by simp; rw [g1] at hq ⊢; split <;> first | rfl | (rename_i h; rw [if_neg h] at hq; omega))).trans ?_
    rfl
theorem loopSM2 {C : List AV} {L : List Int} {k : Nat} (hk : 0 < k ∧ k ≤ 32) (h1 : 1 ≤ n) (h2 : n ≤ 64) (hl : L.length = k) (hg : ∀ i, i < k → L.getD i 0 = n / k + if (i : Int) < n % k then 1 else 0) :
    ∃ j, GReach (roundG Try.prog (deepT Try.prog tSML 100 4) (lsT noT) SM2 mSM2) 5 j (vSM2 n k k 0) (hSM W C (dipsC X) (dipsC Y) ++ [.cells (intL L) 1 .own none]) (.exit 2) (vSM2 n k k k) (hSM W C (dipsC X) (dipsC Y) ++ [.cells (intL L) 1 .own none]) := by
  have st2 := fun i hi => stepSM2 (n := n) (X := X) (Y := Y) (W := W) (C := C) (L := L) (k := k) hk h1 h2 hl hg (i := i) hi
  have en2 : qround Try.prog tSML 100 4 [(88, .bool false)] noT SM2 mSM2 (vSM2 n k k k) (hSM W C (dipsC X) (dipsC Y) ++ [.cells (intL L) 1 .own none]) = some (.exit 2, vSM2 n k k k, hSM W C (dipsC X) (dipsC Y) ++ [.cells (intL L) 1 .own none]) := (nfSM2s ..).trans (if_pos (by simp))
  generalize hSM W C (dipsC X) (dipsC Y) ++ [.cells (intL L) 1 .own none] = H at *
  exact loop_T (fun i => (vSM2 n k k i, H)) (N := k) (by simp) (fun i hi => ⟨_, _, _, st2 i hi, Gc.refl⟩) ⟨_, _, _, en2, Gc.refl⟩
theorem runSlotsSame (w : List Int) (n : Int) (hw : ∀ x ∈ w, (Lit.int .i64 x).wf = true) (hn : -9223372036854775808 ≤ n ∧ n < 9223372036854775808) : ∃ h', Runs Try.prog 6 [.sl (some (0, 0)) w.length 0 false, .int .i64 n] [.cells (w.map (AV.int .i64)) 1 .far none] (.bool true) h' := by
  by_cases hb : (w.length : Int) < 1 ∨ (w.length : Int) > 32 ∨ n < 1 ∨ n > 64
  · refine Runs.valT0 (tSMOk _ _ _ _ _ _ _ _ _ _) (F := 100) (n := 4) (pr := [(28, .bool true)]) ((nfSMl ..).trans ?_)
    by_cases h1 : (w.length : Int) < 1
    · exact if_pos (decide_eq_true h1)
    refine (if_neg (by simpa using h1)).trans ?_
    by_cases h2 : (w.length : Int) > 32
    · exact if_pos (decide_eq_true h2)
    refine (if_neg (by simpa using h2)).trans ?_
    by_cases h3 : n < 1
    · exact if_pos (decide_eq_true h3)
    refine (if_neg (by simpa using h3)).trans ?_
    exact if_pos (by simp; omega)
  have hN : min w.length 32 = w.length := by omega
  have n1 : 1 ≤ n := by omega
  have n64 : n ≤ 64 := by omega
  have hPl : (svP w false).length = w.length := by simp [svP]; omega
  have hc : chkP (svP w false) = 0 := svN_chk w false _ (by omega)
  generalize hP : svP w false = P at *
  have hp : 0 < P.length := by omega
  have h32 : P.length ≤ 32 := by omega
  obtain ⟨e0, -, -, -, -, -⟩ := fill_ok (P := P) (D := []) (n := n) (by omega) (by omega) hc hp (.inl rfl)
  have hXl := fill_len (P := P) (D := []) (n := n) (by omega) (by omega) hc hp (.inl rfl)
  have hcn := fun k hk => fill_cnt (P := P) (D := []) (n := n) (by omega) (by omega) hc hp (.inl rfl) (k := k) hk
  generalize hX : fillP P [] n = X at *
  obtain ⟨f0, -, -, -, -, -⟩ := fill_ok (P := P) (D := X) (n := n) (by omega) (by omega) hc hp (.inr (by omega))
  have hYl := fill_len (P := P) (D := X) (n := n) (by omega) (by omega) hc hp (.inr (by omega))
  have hmv := fill_moved (P := P) (D := X) (n := n) (by omega) (by omega) hc hp (by omega)
  generalize hY : fillP P X n = Y at *
  have hm0 : (movP X Y : Int) = 0 := by
    rw [hmv]
    have : sumL ((List.range P.length).map fun k => max ((shP P n).getD k 0 - cntD X (P.getD k (zD, 0)).1) 0) ≤ 0 * ((List.range P.length).map fun k => max ((shP P n).getD k 0 - cntD X (P.getD k (zD, 0)).1) 0).length := (sumL_bd (B := 0) (by
      intro x hx
      obtain ⟨k, hk, rfl⟩ := List.mem_map.1 hx
      have hk := List.mem_range.1 hk
      have := hcn k hk
      rw [show P.getD k (zD, 0) = P[k] by rw [List.getD_eq_getElem?_getD, List.getElem?_eq_getElem hk, Option.getD_some]]
      omega)).2
    have h0 := sumL_nonneg (l := (List.range P.length).map fun k => max ((shP P n).getD k 0 - cntD X (P.getD k (zD, 0)).1) 0) (by
      intro x hx
      obtain ⟨k, hk, rfl⟩ := List.mem_map.1 hx
      omega)
    omega
  generalize hc0 : P[0].2 = c
  have hcw := chk_w hc hp
  rw [hc0] at hcw
  have hc2 : chkP (mixP P c P.length) = 0 := by
    rw [mixP_all]
    refine chk_of (by simpa using h32) (fun i hi => ?_) (fun i k hi hk h => ?_)
    · have hi' : i < P.length := by simpa using hi
      have := ((chk_iff P).1 hc).2 i hi'
      rw [badAt_some hi', Bool.or_eq_false_iff] at this
      have := this.1
      simp only [mOk, Bool.not_eq_false', Bool.and_eq_true, decide_eq_true_eq] at this
      simp only [List.getElem_map, mOk, Bool.and_eq_true, decide_eq_true_eq]
      exact ⟨⟨this.1.1, by omega⟩, by omega⟩
    · simp only [List.getElem_map] at h
      exact dip_inj hc (by simpa using hi) (by simpa using hk) h
  have hg : ∀ i, i < P.length → (shP (mixP P c P.length) n).getD i 0 = n / P.length + if (i : Int) < n % P.length then 1 else 0 := by
    intro i hi
    have := sh_same (P := mixP P c P.length) (n := n) (c := c) hc2 (by simpa using hp) (by omega) (by omega) (by intro j hj; simp [mixP_all]) (i := i) (by simpa using hi)
    rwa [mixP_len] at this
  have hLl : (shP (mixP P c P.length) n).length = P.length := by
    rw [shP_len (by omega) (by omega) hc2 (by intro h; have := congrArg List.length h; simp at this; subst this; simp at hp), mixP_len]
  generalize hL : shP (mixP P c P.length) n = L at *
  have lp : loopsOf (bodyOf Try.prog 6) = [SM1, SM2] := by kernel_rfl
  have k1 : True → ∃ k, GReach (roundG Try.prog (deepT Try.prog tSML 100 4) (lsT noT) SM1 mSM1) 4 k (vSM1 n P.length 0) (hSM (intL w) (itP P) (dipsC X) (dipsC Y)) (.exit 0) (vSM1 n P.length P.length) (hSM (intL w) (itP (mixP P c P.length)) (dipsC X) (dipsC Y)) := by
    intro _
    have e : mixP P c 0 = P := by simp [mixP]
    have := loop_T (P := Try.prog) (t := tSML) (F := 100) (n := 4) (LS := noT) (c := SM1) (m := mSM1) (n0 := 4) (fun i => (vSM1 n P.length i, hSM (intL w) (itP (mixP P c i)) (dipsC X) (dipsC Y))) (N := P.length) (e := .exit 0) (by simp) (fun i hi => ⟨_, _, _, stepSM1 h32 hp hc0 hi, Gc.refl⟩) ⟨[(66, .bool false)], _, _, (nfSM1s ..).trans (if_pos (by simp)), Gc.refl⟩
    simp only [e] at this
    exact this
  have k2 : True → ∃ k, GReach (roundG Try.prog (deepT Try.prog tSML 100 4) (lsT noT) SM2 mSM2) 5 k (vSM2 n P.length P.length 0) (hSM (intL w) (itP (mixP P c P.length)) (dipsC X) (dipsC Y) ++ [.cells (intL L) 1 .own none]) (.exit 2) (vSM2 n P.length P.length P.length) (hSM (intL w) (itP (mixP P c P.length)) (dipsC X) (dipsC Y) ++ [.cells (intL L) 1 .own none]) := by
    intro _
    exact loopSM2 ⟨hp, h32⟩ n1 n64 hLl hg
  obtain ⟨U1, U2⟩ := mvU (A := X) (B := Y) (h := [.cells (intL w) 1 .far none, .cells (itP P) 19 .own none, .cells (dipsC X) 18 .own none, .cells (dipsC Y) 18 .own none]) (a := .sl (some (2, 0)) X.length 0 false) (b := .sl (some (3, 0)) Y.length 0 false) (rowDs_blk rfl rfl) (rowDs_blk rfl rfl) (by omega) (by omega)
  refine Runs.valT (tSMOk P L X Y P.length P.length X.length Y.length 0 0) (F := 100) (n := 4) (pr := [(28, .bool false), (62, .bool false), (84, .bool false)]) (both (k := 9) (k2 := 16) lp rfl rfl (by decide) (fixC_T (tSMOk _ _ _ _ _ _ _ _ _ _) (F := 100) (n := 4) (LS := noT) (noLoops (by kernel_rfl)) k1) (fixC_T (tSMOk _ _ _ _ _ _ _ _ _ _) (F := 100) (n := 4) (LS := noT) (noLoops (by kernel_rfl)) k2)) ?_
  refine (nfSMm ..).trans ?_
  refine (if_neg (by simp; omega)).trans ?_
  refine (if_neg (by simp; omega)).trans ?_
  refine (if_neg (by simp; omega)).trans ?_
  refine (if_pos (by simp; omega)).trans ?_
  refine (if_pos (cdec_true.2 (.mk w false _ _ (rowI_blk rfl rfl) P _ hP rfl))).trans ?_
  refine (if_pos (cdec_true.2 (.mk P [] n _ _ _ (rowDs_nil _ _) (rowP_blk rfl rfl) X _ 0 hX rfl e0))).trans ?_
  refine (if_pos (cdec_true.2 (.mk P X n _ _ _ (rowDs_blk rfl rfl) (rowP_blk rfl rfl) Y _ 0 hY rfl f0))).trans ?_
  refine (if_neg (by decide)).trans ?_
  refine (if_neg (by decide)).trans ?_
  refine (if_neg (by simp; omega)).trans ?_
  refine (if_pos (cdec_true.2 U1)).trans ?_
  refine (if_pos (by unfold hSMm6; rw [U2, hm0]; rfl)).trans ?_
  refine (if_pos (cdec_true.2 ⟨trivial, rfl, rfl⟩)).trans ?_
  refine (if_pos (cdec_true.2 (.mk (mixP P c P.length) n _ _ (rowP_blk rfl (by simp)) L _ hL hLl.symm))).trans ?_
  refine (if_pos (by simp)).trans ?_
  refine (if_pos (cdec_true.2 ⟨trivial, rfl, rfl⟩)).trans ?_
  rfl

end Go.Proofs.Ytlppbeoiphglcaa.L
