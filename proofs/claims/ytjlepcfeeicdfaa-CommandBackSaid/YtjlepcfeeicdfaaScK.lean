/- The reference's Whole, Dip, SameCommand: contracts. -/
import Derived.Test.YtjlepcfeeicdfaaScN
set_option autoImplicit false
set_option maxRecDepth 100000
set_option linter.unusedVariables false
set_option linter.unusedSimpArgs false
namespace Go.Proofs.Ytjlepcfeeicdfaa.L
open Go Go.Abs

instance decDip : DecidableEq DipC := fun d e => if h : d.v = e.v ∧ d.b = e.b ∧ d.p = e.p then .isTrue (DipC.ext' h.1 h.2.1 h.2.2) else .isFalse fun g => h (by subst g; exact ⟨rfl, rfl, rfl⟩)
theorem eqM_ill (d e : DipC) (v u : Int) : eqM (illC d v) (illC e u) = decide (d = e ∧ v = u) := by
  by_cases h : d = e ∧ v = u
  · rw [decide_eq_true h]
    obtain ⟨rfl, rfl⟩ := h
    unfold eqM
    simp only [beq_self_eq_true, Bool.and_self]
  · rw [decide_eq_false h, Bool.eq_false_iff]
    intro hh
    apply h
    obtain ⟨w, x, po, rfl⟩ := dF_of d
    obtain ⟨w1, y, po1, rfl⟩ := dF_of e
    unfold eqM at hh
    simp only [Bool.and_eq_true, beq_iff_eq, and_true, and_assoc] at hh
    obtain ⟨a, a0, a1, a2, a3, a4, a5, a6, a7, a8, a9, a10, a11, a12, a13, a14, a15, ap, aw⟩ := hh
    have ew : w = w1 := a
    subst ew
    refine ⟨dF_ext (fun i hi => ?_) ap, aw⟩
    have e : i = 0 ∨ i = 1 ∨ i = 2 ∨ i = 3 ∨ i = 4 ∨ i = 5 ∨ i = 6 ∨ i = 7 ∨ i = 8 ∨ i = 9 ∨ i = 10 ∨ i = 11 ∨ i = 12 ∨ i = 13 ∨ i = 14 ∨ i = 15 := by omega
    rcases e with rfl | rfl | rfl | rfl | rfl | rfl | rfl | rfl | rfl | rfl | rfl | rfl | rfl | rfl | rfl | rfl
    · exact a0
    · exact a1
    · exact a2
    · exact a3
    · exact a4
    · exact a5
    · exact a6
    · exact a7
    · exact a8
    · exact a9
    · exact a10
    · exact a11
    · exact a12
    · exact a13
    · exact a14
    · exact a15
theorem dF_inj {w w1 : Bool} {x y : Nat → Int} {po po1 : Int} (h : dF w x po = dF w1 y po1) : w = w1 ∧ (∀ i, i < 16 → x i = y i) ∧ po = po1 := by
  unfold dF at h
  simp only [DipC.mk.injEq, List.cons.injEq, and_true] at h
  obtain ⟨h1, ⟨a0, a1, a2, a3, a4, a5, a6, a7, a8, a9, a10, a11, a12, a13, a14, a15⟩, h3⟩ := h
  refine ⟨h1, fun i hi => ?_, h3⟩
  have e : i = 0 ∨ i = 1 ∨ i = 2 ∨ i = 3 ∨ i = 4 ∨ i = 5 ∨ i = 6 ∨ i = 7 ∨ i = 8 ∨ i = 9 ∨ i = 10 ∨ i = 11 ∨ i = 12 ∨ i = 13 ∨ i = 14 ∨ i = 15 := by omega
  rcases e with rfl | rfl | rfl | rfl | rfl | rfl | rfl | rfl | rfl | rfl | rfl | rfl | rfl | rfl | rfl | rfl <;> assumption
theorem eqV_d (pr : Int) (w : Bool) (x : Nat → Int) (po : Int) (pr1 : Int) (w1 : Bool) (y : Nat → Int) (po1 : Int) : eqV pr w x po pr1 w1 y po1 = decide (pr = pr1 ∧ dF w x po = dF w1 y po1) := by
  unfold eqV
  by_cases h : pr = pr1 ∧ dF w x po = dF w1 y po1
  · rw [decide_eq_true h]
    obtain ⟨rfl, h⟩ := h
    obtain ⟨rfl, hx, rfl⟩ := dF_inj h
    rw [hx 0 (by omega), hx 1 (by omega), hx 2 (by omega), hx 3 (by omega), hx 4 (by omega), hx 5 (by omega), hx 6 (by omega), hx 7 (by omega), hx 8 (by omega), hx 9 (by omega), hx 10 (by omega), hx 11 (by omega), hx 12 (by omega), hx 13 (by omega), hx 14 (by omega), hx 15 (by omega)]
    simp only [beq_self_eq_true, Bool.and_self]
  · rw [decide_eq_false h, Bool.eq_false_iff]
    intro hh
    apply h
    simp only [Bool.and_eq_true, beq_iff_eq, and_true, and_assoc] at hh
    obtain ⟨e, a, a0, a1, a2, a3, a4, a5, a6, a7, a8, a9, a10, a11, a12, a13, a14, a15, ap⟩ := hh
    have ew : w = w1 := a
    subst ew
    refine ⟨e, dF_ext (fun i hi => ?_) ap⟩
    have e : i = 0 ∨ i = 1 ∨ i = 2 ∨ i = 3 ∨ i = 4 ∨ i = 5 ∨ i = 6 ∨ i = 7 ∨ i = 8 ∨ i = 9 ∨ i = 10 ∨ i = 11 ∨ i = 12 ∨ i = 13 ∨ i = 14 ∨ i = 15 := by omega
    rcases e with rfl | rfl | rfl | rfl | rfl | rfl | rfl | rfl | rfl | rfl | rfl | rfl | rfl | rfl | rfl | rfl
    · exact a0
    · exact a1
    · exact a2
    · exact a3
    · exact a4
    · exact a5
    · exact a6
    · exact a7
    · exact a8
    · exact a9
    · exact a10
    · exact a11
    · exact a12
    · exact a13
    · exact a14
    · exact a15
theorem r19_it {P : PL} {i : Nat} (hi : i < P.length) : r19 (itP P) i = illC P[i].1 P[i].2 := by
  unfold r19
  rw [show 0 + (i : Int).toNat * 19 = i * 19 by omega]; exact itP_19 hi
def hSc (C D : List AV) (m n : Nat) (k pr : Int) (w : Bool) (x : Nat → Int) (po : Int) (k1 pr1 : Int) (w1 : Bool) (y : Nat → Int) (po1 : Int) : AHeap := [.cells C 19 .far none, .cells D 19 .far none, .cells (cmA k pr w x po (.sl (some (0, 0)) m 0 false)) 21 .own none, .cells (cmA k1 pr1 w1 y po1 (.sl (some (1, 0)) n 0 false)) 21 .own none]
theorem stepSc {P Q : PL} {k pr : Int} {w : Bool} {x : Nat → Int} {po k1 pr1 : Int} {w1 : Bool} {y : Nat → Int} {po1 : Int} {i : Nat} (hl : P.length ≤ 1000000) (hi : i < P.length) (hj : i < Q.length) (he : P[i] = Q[i]) :
    qround Try.prog [] 100 4 [(31, .bool true), (44, .bool false)] noT SCL mSc (vSc i) (hSc (itP P) (itP Q) P.length Q.length k pr w x po k1 pr1 w1 y po1) = some (.norm, vSc ((i + 1 : Nat) : Int), hSc (itP P) (itP Q) P.length Q.length k pr w x po k1 pr1 w1 y po1) := by
  have e5 := wrap1 (i := i) (by omega)
  have hL := itP_length P
  have hM := itP_length Q
  refine (nfScrR ..).trans ?_
  rw [r19_it hi, r19_it hj, he, e5]
  generalize Q[i] = z
  obtain ⟨d, v⟩ := z
  obtain ⟨u, t, s, rfl⟩ := dF_of d
  refine (if_pos (by simp; omega)).trans ?_
  refine (if_pos (by omega)).trans ?_
  refine (if_pos (by omega)).trans ?_
  refine (if_pos (by omega)).trans ?_
  refine (if_pos (by omega)).trans ?_
  iterate 44 refine (if_pos (by first | rfl | (simp; done))).trans ?_
  exact if_pos (by rw [eqM_ill, decide_eq_true ⟨rfl, rfl⟩]; rfl)
theorem badSc {P Q : PL} {k pr : Int} {w : Bool} {x : Nat → Int} {po k1 pr1 : Int} {w1 : Bool} {y : Nat → Int} {po1 : Int} {i : Nat} (hl : P.length ≤ 1000000) (hi : i < P.length) (hj : i < Q.length) (he : P[i] ≠ Q[i]) :
    qround Try.prog [] 100 4 [(31, .bool true), (44, .bool true)] noT SCL mSc (vSc i) (hSc (itP P) (itP Q) P.length Q.length k pr w x po k1 pr1 w1 y po1) = some (.ret, vSc i, hSc (itP P) (itP Q) P.length Q.length k pr w x po k1 pr1 w1 y po1) := by
  have hL := itP_length P
  have hM := itP_length Q
  refine (nfScrD ..).trans ?_
  rw [r19_it hi, r19_it hj]
  have he' : ¬ (P[i].1 = Q[i].1 ∧ P[i].2 = Q[i].2) := fun h => he (Prod.ext h.1 h.2)
  generalize P[i].1 = d at *
  generalize P[i].2 = v at *
  generalize Q[i].1 = d2 at *
  generalize Q[i].2 = v2 at *
  obtain ⟨u, t, s, rfl⟩ := dF_of d
  obtain ⟨u2, t2, s2, rfl⟩ := dF_of d2
  refine (if_pos (by simp; omega)).trans ?_
  refine (if_pos (by omega)).trans ?_
  refine (if_pos (by omega)).trans ?_
  refine (if_pos (by omega)).trans ?_
  refine (if_pos (by omega)).trans ?_
  iterate 44 refine (if_pos (by first | rfl | (simp; done))).trans ?_
  exact if_pos (by rw [eqM_ill, decide_eq_false he']; rfl)
def sameC (k pr : Int) (d : DipC) (P : PL) (k1 pr1 : Int) (d1 : DipC) (Q : PL) : Prop := k = k1 ∧ pr = pr1 ∧ d = d1 ∧ P = Q
instance (k pr : Int) (d : DipC) (P : PL) (k1 pr1 : Int) (d1 : DipC) (Q : PL) : Decidable (sameC k pr d P k1 pr1 d1 Q) := by unfold sameC; infer_instance
theorem runSc {P Q : PL} {k pr : Int} {w : Bool} {x : Nat → Int} {po k1 pr1 : Int} {w1 : Bool} {y : Nat → Int} {po1 : Int} (hl : P.length ≤ 1000000) :
    ∃ h', Runs Try.prog 16 [.agg (cmA k pr w x po (.sl (some (0, 0)) P.length 0 false)), .agg (cmA k1 pr1 w1 y po1 (.sl (some (1, 0)) Q.length 0 false))] [.cells (itP P) 19 .far none, .cells (itP Q) 19 .far none] (.bool (decide (sameC k pr (dF w x po) P k1 pr1 (dF w1 y po1) Q))) h' := by
  by_cases hX : k = k1 ∧ (pr = pr1 ∧ dF w x po = dF w1 y po1) ∧ P.length = Q.length
  case neg =>
    rw [decide_eq_false (fun h : sameC .. => hX ⟨h.1, ⟨h.2.1, h.2.2.1⟩, congrArg List.length h.2.2.2⟩)]
    refine Runs.valT0 (find_nil _) (F := 100) (n := 4) (pr := [(26, .bool true)]) ((nfScX ..).trans ?_)
    by_cases a1 : k = k1
    case neg => exact if_pos (by simpa using a1)
    refine (if_neg (by simpa using a1)).trans ?_
    rw [eqV_d]
    by_cases a2 : pr = pr1 ∧ dF w x po = dF w1 y po1
    case neg => exact if_pos (by rw [decide_eq_false a2]; rfl)
    refine (if_neg (by rw [decide_eq_true a2]; decide)).trans ?_
    exact if_pos (by have : P.length ≠ Q.length := fun h => hX ⟨a1, a2, h⟩; simp; omega)
  obtain ⟨a1, a2, a3⟩ := hX
  have lp : loopsOf (bodyOf Try.prog 16) = [SCL] := by kernel_rfl
  by_cases he : P = Q
  · rw [decide_eq_true (show sameC .. from ⟨a1, a2.1, a2.2, he⟩)]
    have key : True → ∃ t, GReach (roundG Try.prog (deepT Try.prog [] 100 4) (lsT noT) SCL mSc) 4 t (vSc 0) (hSc (itP P) (itP Q) P.length Q.length k pr w x po k1 pr1 w1 y po1) (.exit 0) (vSc P.length) (hSc (itP P) (itP Q) P.length Q.length k pr w x po k1 pr1 w1 y po1) := by
      intro _
      exact loop_T (fun i => (vSc i, hSc (itP P) (itP Q) P.length Q.length k pr w x po k1 pr1 w1 y po1)) (N := P.length) (by simp) (fun i hi => ⟨_, _, _, stepSc hl hi (by omega) (by simp only [he]), Gc.refl⟩) ⟨_, _, _, (nfScrS ..).trans (if_pos (by simp)), Gc.refl⟩
    refine Runs.valT (find_nil _) (F := 100) (n := 4) (pr := [(26, .bool false)]) (only (k := 4) lp (fixC_T (find_nil _) (F := 100) (n := 4) (LS := noT) (noLoops (by kernel_rfl)) key)) ((nfScL ..).trans ?_)
    refine (if_neg (by simpa using a1)).trans ?_
    rw [eqV_d]
    refine (if_neg (by rw [decide_eq_true a2]; decide)).trans ?_
    refine (if_pos (by simp; omega)).trans ?_
    exact if_pos (cdec_true.2 ⟨trivial, rfl, rfl⟩)
  · rw [decide_eq_false (fun h : sameC .. => he h.2.2.2)]
    obtain ⟨j, hj, hne, hall⟩ : ∃ j, ∃ hj : j < P.length, P[j] ≠ Q[j]'(by omega) ∧ ∀ i (hi : i < j), P[i]'(by omega) = Q[i]'(by omega) := by
      have hx : ∃ i, i < P.length ∧ P[i]? ≠ Q[i]? := by
        refine Classical.byContradiction fun h => he (List.ext_getElem? fun i => ?_)
        by_cases hi : i < P.length
        · exact Classical.byContradiction fun g => h ⟨i, hi, g⟩
        · rw [List.getElem?_eq_none (by omega), List.getElem?_eq_none (by omega)]
      have hlt : (List.range P.length).findIdx (fun i => decide (P[i]? ≠ Q[i]?)) < (List.range P.length).length := by
        obtain ⟨i, h1, h2⟩ := hx
        exact List.findIdx_lt_length_of_exists ⟨i, by simpa using h1, by simpa using h2⟩
      have h1 := List.findIdx_getElem (p := fun i => decide (P[i]? ≠ Q[i]?)) (xs := List.range P.length) (w := hlt)
      have h2 : ∀ i, i < (List.range P.length).findIdx (fun i => decide (P[i]? ≠ Q[i]?)) → P[i]? = Q[i]? := fun i hi => by
        have := List.not_of_lt_findIdx (p := fun i => decide (P[i]? ≠ Q[i]?)) (xs := List.range P.length) hi
        simpa using this
      rw [List.getElem_range] at h1
      rw [List.length_range] at hlt
      generalize (List.range P.length).findIdx (fun i => decide (P[i]? ≠ Q[i]?)) = j at *
      refine ⟨j, hlt, fun h => ?_, fun i hi => ?_⟩
      · have h1' := of_decide_eq_true h1
        rw [List.getElem?_eq_getElem hlt, List.getElem?_eq_getElem (by omega), h] at h1'
        exact h1' rfl
      · have := h2 i hi
        rw [List.getElem?_eq_getElem (by omega), List.getElem?_eq_getElem (by omega)] at this
        exact Option.some.inj this
    have key : True → ∃ t, GReach (roundG Try.prog (deepT Try.prog [] 100 4) (lsT noT) SCL mSc) 4 t (vSc 0) (hSc (itP P) (itP Q) P.length Q.length k pr w x po k1 pr1 w1 y po1) .ret (vSc j) (hSc (itP P) (itP Q) P.length Q.length k pr w x po k1 pr1 w1 y po1) := by
      intro _
      exact loop_T (fun i => (vSc i, hSc (itP P) (itP Q) P.length Q.length k pr w x po k1 pr1 w1 y po1)) (N := j) (by simp) (fun i hi => ⟨_, _, _, stepSc hl (by omega) (by omega) (hall i hi), Gc.refl⟩) ⟨_, _, _, badSc hl hj (by omega) hne, Gc.refl⟩
    refine Runs.valT (find_nil _) (F := 100) (n := 4) (pr := [(26, .bool false)]) (only (k := 4) lp (fixC_T (find_nil _) (F := 100) (n := 4) (LS := noT) (noLoops (by kernel_rfl)) key)) ((nfScB ..).trans ?_)
    refine (if_neg (by simpa using a1)).trans ?_
    rw [eqV_d]
    refine (if_neg (by rw [decide_eq_true a2]; decide)).trans ?_
    refine (if_pos (by simp; omega)).trans ?_
    exact if_pos (cdec_true.2 ⟨trivial, rfl, rfl⟩)
inductive ScR : List AV → AHeap → AV → AHeap → Prop
  | mk (P Q : PL) (k pr k1 pr1 : Int) (d d1 : DipC) (h : AHeap) (a b : AV) (ga : rowP h a P) (gb : rowP h b Q) (hl : P.length ≤ 1000000) (r : Bool) (hr : decide (sameC k pr d P k1 pr1 d1 Q) = r) : ScR [.agg (cmF k pr d a), .agg (cmF k1 pr1 d1 b)] h (.bool r) []
theorem sSc (L : List (Nat × AV × AHeap)) : SoundE Try.prog 16 (entF (eRel ScR L)) := by
  refine relR_sound (fun args h v new hR => ?_) L
  cases hR with
  | mk P Q k pr k1 pr1 d d1 _ a b ga gb hl r hr =>
  subst hr
  obtain ⟨w, x, po, rfl⟩ := dF_of d
  obtain ⟨w1, y, po1, rfl⟩ := dF_of d1
  obtain ⟨h1, h2⟩ := runSc (P := P) (Q := Q) (k := k) (pr := pr) (w := w) (x := x) (po := po) (k1 := k1) (pr1 := pr1) (w1 := w1) (y := y) (po1 := po1) hl
  exact ⟨_, _, .cons _ _ _ _ _ [.cells (itP P) 19 .far none] [.cells (itP Q) 19 .far none] (canon_cmd ga) (.cons _ _ _ _ _ [.cells (itP Q) 19 .far none] [] (canon_cmd gb) (.nil _)), _, h1, h2, [], .flat _ _ rfl, ksOk0⟩

end Go.Proofs.Ytjlepcfeeicdfaa.L
