/- What a call yields, told anew: blocks renumbered; one of them may be put behind all. -/
import Derived.Test.YtlppbeoiphglcaaGcKit
set_option autoImplicit false
set_option linter.unusedVariables false
namespace Go.Abs
variable {P : Program} {W0 : World} {σ σ' : Sig} {h h' : AHeap} {w : World}

structure Rho (ρ : Nat → Option Nat) (s : List Nat) (h' : AHeap) : Prop where
  to : ∀ i j, ρ i = some j → s[j]? = some i
  back : ∀ j i b, s[j]? = some i → h'[j]? = some b → b = .dead ∨ ρ i = some j

theorem Rel.anew (R : Rel W0 σ h w) {s : List Nat} {ρ : Nat → Option Nat} (B : BRs ρ h s h') (H : Rho ρ s h') : SigTo ρ σ (subSig σ s) ∧ Rel W0 (subSig σ s) h' w ∧ ∀ b, Own h' (subSig σ s) b → Own h σ b := by
  have hto : SigTo ρ σ (subSig σ s) := fun i j p h hp => subSig_get (H.to _ _ h) hp
  have key : ∀ {j : Nat} {b' : ABlk} {p : Plc}, h'[j]? = some b' → (subSig σ s)[j]? = some p → ∃ i b, s[j]? = some i ∧ h[i]? = some b ∧ BR ρ b b' ∧ σ[i]? = some p := by
    intro j b' p h1 h2
    obtain ⟨i, b, e1, e2, e3⟩ := B.get h1
    obtain ⟨p', hp, _⟩ := R.get e2
    have := subSig_get e1 hp
    rw [this] at h2; cases h2
    exact ⟨i, b, e1, e2, e3, hp⟩
  have live : ∀ {j i : Nat} {b : ABlk}, s[j]? = some i → h'[j]? = some b → b.mine = true → ρ i = some j := fun e1 e2 hm => by
    rcases H.back _ _ _ e1 e2 with rfl | h
    · simp [ABlk.mine] at hm
    · exact h
  refine ⟨hto, ⟨by simp [subSig, B.length], fun h1 h2 => ?_, fun {j vs e par p} h1 h2 hvs => ?_, fun h1 h2 hm => ?_, fun {i j b b' p q} hij h1 h2 h3 h4 m1 m2 hpq => ?_, R.below⟩, ?_⟩
  · obtain ⟨i, b, e1, e2, e3, e4⟩ := key h1 h2
    exact e3.obj hto (R.obj e2 e4)
  · obtain ⟨i, b, e1, e2, e3, e4⟩ := key h1 h2
    cases e3 with
    | cells vs0 _ _ _ par0 _ ha hp =>
      refine R.far e2 e4 fun e => ?_
      subst e
      exact hvs (List.eq_nil_of_length_eq_zero (by simpa using ha.length))
  · obtain ⟨i, b, e1, e2, e3, e4⟩ := key h1 h2
    exact R.own e2 e4 (e3.mine hm).1
  · obtain ⟨i0, b0, e1, e2, e3, e4⟩ := key h1 h3
    obtain ⟨j0, c0, f1, f2, f3, f4⟩ := key h2 h4
    have g1 := live e1 h1 m1
    have g2 := live f1 h2 m2
    have hne : i0 ≠ j0 := by
      rintro rfl
      rw [g1] at g2; cases g2; exact hij rfl
    rcases R.sep hne e2 f2 e4 f4 (e3.mine m1).1 (f3.mine m2).1 hpq with ⟨k1, k2⟩ | ⟨k1, k2⟩
    · left
      refine ⟨?_, by rw [(f3.mine m2).2]; exact k2⟩
      cases e3 with
      | dead => simp [ABlk.mine] at m1
      | cells _ _ _ _ par par' _ hp => exact hp _ _ k1 g2
      | mp => simp [ABlk.par] at k1
      | lp => simp [ABlk.par] at k1
    · right
      refine ⟨?_, by rw [(e3.mine m1).2]; exact k2⟩
      cases f3 with
      | dead => simp [ABlk.mine] at m2
      | cells _ _ _ _ par par' _ hp => exact hp _ _ k1 g1
      | mp => simp [ABlk.par] at k1
      | lp => simp [ABlk.par] at k1
  · rintro x ⟨j, b', p, h1, h2, h3, rfl⟩
    obtain ⟨i, b, e1, e2, e3, e4⟩ := key h1 h2
    exact ⟨i, b, p, e2, e4, (e3.mine h3).1, rfl⟩

inductive Re (n0 : Nat) : AV → AHeap → AV → AHeap → Prop
  | done (v : AV) (h : AHeap) : Re n0 v h v h
  | gc (s : List Nat) (ρ : Nat → Option Nat) (v : AV) (h : AHeap) (v1 : AV) (h1 : AHeap) (v2 : AV) (h2 : AHeap) (hs : ∀ j, j < n0 → s[j]? = some j) (hb : BRs ρ h s h1) (hr : Rho ρ s h1) (hv : AR ρ v v1) (t : Re n0 v1 h1 v2 h2) : Re n0 v h v2 h2
  | orphan (i q e : Nat) (md : Md) (cs : List AV) (v : AV) (h h1 : AHeap) (v2 : AV) (h2 : AHeap) (hi : h[i]? = some (.cells cs e md (some q))) (hq : ∀ b, h[q]? = some b → b.mine = false) (he : h1 = h.set i (.cells cs e md none)) (t : Re n0 v h1 v2 h2) : Re n0 v h v2 h2

theorem Re.sim {σ0 : Sig} {h0 : AHeap} {w0 : World} (e0 : σ0.length = h0.length) {v v2 : AV} {h2 : AHeap} (g : Re h0.length v h v2 h2) : ∀ {σ : Sig} {u : Value}, Stp σ0 h0 w0 σ h w → Rel W0 σ h w → VR σ v u →
    ∃ σ2, Stp σ0 h0 w0 σ2 h2 w ∧ Rel W0 σ2 h2 w ∧ VR σ2 v2 u := by
  induction g with
  | done => exact fun s R hv => ⟨_, s, R, hv⟩
  | gc s ρ v h v1 h1 _ _ hs hb hr hv _ ih =>
    intro σ u s0 R hu
    obtain ⟨hto, R1, ho⟩ := R.anew hb hr
    refine ih ⟨?_, fun b hb => s0.own b (ho b hb), s0.same, s0.size⟩ R1 (hv.vr hto hu)
    obtain ⟨τ, hτ⟩ := s0.ext
    refine ⟨(subSig σ s).drop σ0.length, ?_⟩
    have hl : σ0.length ≤ (subSig σ s).length := by
      rcases Nat.eq_zero_or_pos h0.length with h1 | h1
      · omega
      · have h2 := hs (h0.length - 1) (by omega)
        have h3 := (List.getElem?_eq_some_iff.1 h2).1
        simp [subSig]; omega
    have e : (subSig σ s).take σ0.length = σ0 := by
      apply List.ext_getElem?
      intro j
      rw [List.getElem?_take]
      split
      · rename_i hj
        have h1 : σ[j]? = σ0[j]? := by rw [hτ, List.getElem?_append_left hj]
        have h2 : σ0[j]? = some σ0[j] := List.getElem?_eq_getElem hj
        rw [h2]
        exact subSig_get (hs j (by omega)) (h1.trans h2)
      · rw [List.getElem?_eq_none (by omega)]
    conv => lhs; rw [← List.take_append_drop σ0.length (subSig σ s), e]
  | orphan i q e md cs v h h1 _ _ hi hq he _ ih =>
    intro σ u s0 R hu
    obtain ⟨R1, ho⟩ := R.orphan hi hq
    subst he
    exact ih (s0.trans ⟨⟨[], by simp⟩, fun b hb => .inl (ho b hb), fun _ _ _ => rfl, Nat.le_refl _⟩) R1 hu

end Go.Abs
