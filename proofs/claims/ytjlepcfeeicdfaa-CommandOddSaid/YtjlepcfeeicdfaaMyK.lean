/- may: its contract. -/
import Derived.Test.YtjlepcfeeicdfaaMyN
set_option autoImplicit false
set_option maxRecDepth 100000
set_option linter.unusedVariables false
set_option linter.unusedSimpArgs false
namespace Go.Proofs.Ytjlepcfeeicdfaa.L
open Go Go.Abs

def vD (d : DipC) : Bool := adrValid (d.cells.take 17)
theorem vD_F (w : Bool) (x : Nat → Int) (po : Int) : vD (dF w x po) = adrValid (adF w x) := rfl
def preM (k : Int) (d : DipC) (n : Nat) : Prop := 1 ≤ k ∧ k ≤ 5 ∧ n ≤ 255 ∧ (k = 2 → n = 0) ∧ (3 ≤ k → n = 1) ∧ vD d = true
instance (k : Int) (d : DipC) (n : Nat) : Decidable (preM k d n) := by unfold preM; infer_instance
def mayM (k : Int) (d : DipC) (P : PL) : Prop := preM k d P.length ∧ P.any (badM k) = false
instance (k : Int) (d : DipC) (P : PL) : Decidable (mayM k d P) := by unfold mayM; infer_instance
theorem dn {p : Prop} [Decidable p] (h : ¬ p) : ¬ decide p = true := by simpa using h
theorem beq_of {k m : Int} (h : k = m) : (intV (some (AV.int .i64 k)) == m) = true := by subst h; simp
theorem bne_of {k m : Int} (h : ¬ k = m) : ¬ (intV (some (AV.int .i64 k)) == m) = true := by simpa using h
theorem isAdr_F (w : Bool) (x : Nat → Int) : IsAdr (adF w x) := .mk (dF w x 0) _ rfl
theorem runMy {P : PL} {k pr : Int} {w : Bool} {x : Nat → Int} {po : Int} (hl : P.length ≤ 1000000) : ∃ h', Runs Try.prog 25 [.agg (cmA k pr w x po (.sl (some (0, 0)) P.length 0 false))] [.cells (itP P) 19 .far none] (.bool (decide (mayM k (dF w x po) P))) h' := by
  by_cases hp : preM k (dF w x po) P.length
  · have e : decide (mayM k (dF w x po) P) = !P.any (badM k) := by
      by_cases h : P.any (badM k) = true
      · rw [h]; exact decide_eq_false (fun g => by have := g.2; rw [h] at this; cases this)
      · have h' : P.any (badM k) = false := by simpa using h
        rw [h']; exact decide_eq_true ⟨hp, h'⟩
    rw [e]
    obtain ⟨h1, h2, h3, h4, h5, h6⟩ := hp
    rw [vD_F] at h6
    refine Runs.valT0 (tMyOk (P.any (badM k))) (F := 100) (n := 4) (pr := [(43, .bool false)]) ?_
    refine (nfMyF ..).trans ?_
    have fin : ∀ {h : AHeap}, h = [.cells (itP P) 19 .far none, .cells (cmA k pr w x po (.sl (some (0, 0)) P.length 0 false)) 21 .own none] → CfR [.sl (some (0, 0)) P.length 0 false, .fn (.func 36) [.ptr (some (1, 0))]] h (.bool (P.any (badM k))) [] := by
      rintro h rfl
      exact .mk P k pr (dF w x po) _ _ (.sl (some (0, 0)) P.length 0 false) 1 21 .own none (rowP_blk rfl rfl) rfl rfl (rowP_blk rfl rfl) hl _ rfl
    refine (if_neg (dn (p := k < 1) (by omega))).trans ?_
    refine (if_neg (dn (p := k > 5) (by omega))).trans ?_
    refine (if_neg (by simp; omega)).trans ?_
    by_cases a4 : k = 2
    · refine (if_pos (beq_of a4)).trans ?_
      refine (if_neg (by have := h4 a4; rw [this]; decide)).trans ?_
      refine (if_neg (dn (p := k ≥ 3) (by omega))).trans ?_
      refine (if_pos (cdec_true.2 (isAdr_F w x))).trans ?_
      refine (if_pos (by rw [opq_eq, h6]; rfl)).trans ?_
      exact if_pos (cdec_true.2 (fin rfl))
    · refine (if_neg (bne_of a4)).trans ?_
      by_cases a6 : 3 ≤ k
      · refine (if_pos (decide_eq_true (show k ≥ 3 by omega))).trans ?_
        refine (if_pos (decide_eq_true (show k ≤ 5 by omega))).trans ?_
        refine (if_neg (by have := h5 a6; rw [this]; decide)).trans ?_
        refine (if_pos (cdec_true.2 (isAdr_F w x))).trans ?_
        refine (if_pos (by rw [opq_eq, h6]; rfl)).trans ?_
        exact if_pos (cdec_true.2 (fin rfl))
      · refine (if_neg (dn (p := k ≥ 3) (by omega))).trans ?_
        refine (if_pos (cdec_true.2 (isAdr_F w x))).trans ?_
        refine (if_pos (by rw [opq_eq, h6]; rfl)).trans ?_
        exact if_pos (cdec_true.2 (fin rfl))
  · have e : decide (mayM k (dF w x po) P) = false := decide_eq_false (fun g => hp g.1)
    rw [e]
    refine Runs.valT0 (tMyOk true) (F := 100) (n := 4) (pr := [(43, .bool true)]) ?_
    refine (nfMyT ..).trans ?_
    by_cases a1 : k < 1
    · exact if_pos (decide_eq_true a1)
    refine (if_neg (dn a1)).trans ?_
    by_cases a2 : k > 5
    · exact if_pos (decide_eq_true a2)
    refine (if_neg (dn a2)).trans ?_
    by_cases a3 : P.length > 255
    · exact if_pos (by simp; omega)
    refine (if_neg (by simp; omega)).trans ?_
    have nv : (k = 2 → P.length = 0) → (3 ≤ k → P.length = 1) → adrValid (adF w x) = false := fun g1 g2 => by
      cases hv : adrValid (adF w x) with
      | false => rfl
      | true => exact absurd ⟨by omega, by omega, by omega, g1, g2, hv⟩ hp
    by_cases a4 : k = 2
    · refine (if_pos (beq_of a4)).trans ?_
      by_cases a5 : 0 < P.length
      · exact if_pos (decide_eq_true (by omega))
      refine (if_neg (by rw [decide_eq_true_eq]; omega)).trans ?_
      refine (if_neg (dn (p := k ≥ 3) (by omega))).trans ?_
      refine (if_pos (cdec_true.2 (isAdr_F w x))).trans ?_
      exact if_pos (by rw [opq_eq, nv (fun _ => by omega) (fun _ => by omega)]; rfl)
    · refine (if_neg (bne_of a4)).trans ?_
      by_cases a6 : 3 ≤ k
      · refine (if_pos (decide_eq_true (show k ≥ 3 by omega))).trans ?_
        refine (if_pos (decide_eq_true (show k ≤ 5 by omega))).trans ?_
        by_cases a7 : P.length = 1
        · refine (if_neg (by rw [a7]; decide)).trans ?_
          refine (if_pos (cdec_true.2 (isAdr_F w x))).trans ?_
          exact if_pos (by rw [opq_eq, nv (fun h => absurd h a4) (fun _ => a7)]; rfl)
        · exact if_pos (by simp; omega)
      · refine (if_neg (dn (p := k ≥ 3) (by omega))).trans ?_
        refine (if_pos (cdec_true.2 (isAdr_F w x))).trans ?_
        exact if_pos (by rw [opq_eq, nv (fun h => absurd h a4) (fun h => absurd h a6)]; rfl)
def cmF (k pr : Int) (d : DipC) (a : AV) : List AV := .int .i64 k :: cmX pr d a
inductive MyR : List AV → AHeap → AV → AHeap → Prop
  | mk (P : PL) (k pr : Int) (d : DipC) (h : AHeap) (a : AV) (g : rowP h a P) (hl : P.length ≤ 1000000) (r : Bool) (hr : decide (mayM k d P) = r) : MyR [.agg (cmF k pr d a)] h (.bool r) []
theorem canon_cmd {h : AHeap} {n : Nat} {k pr : Int} {d : DipC} {a : AV} {P : PL} (g : rowP h a P) : Canon h n (.agg (cmF k pr d a)) (.agg (cmF k pr d (.sl (some (n, 0)) P.length 0 false))) [.cells (itP P) 19 .far none] := .agg _ _ _ _ (canons_cm g)
theorem sMy (L : List (Nat × AV × AHeap)) : SoundE Try.prog 25 (entF (eRel MyR L)) := by
  refine relR_sound (fun args h v new hR => ?_) L
  cases hR with
  | mk P k pr d _ a g hl r hr =>
  subst hr
  obtain ⟨w, x, po, rfl⟩ := dF_of d
  obtain ⟨h1, h2⟩ := runMy (P := P) (k := k) (pr := pr) (w := w) (x := x) (po := po) hl
  exact ⟨_, _, .cons _ _ _ _ _ [.cells (itP P) 19 .far none] [] (canon_cmd g) (.nil _), _, h1, h2, [], .flat _ _ rfl, ksOk0⟩

end Go.Proofs.Ytjlepcfeeicdfaa.L
