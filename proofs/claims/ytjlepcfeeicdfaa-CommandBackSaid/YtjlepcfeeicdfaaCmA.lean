/- An argument that is a struct whose last field is a row. -/
import Derived.Test.YtjlepcfeeicdfaaBase
set_option autoImplicit false
set_option maxRecDepth 100000
set_option linter.unusedVariables false
set_option linter.unusedSimpArgs false
namespace Go.Abs
variable {P : Program} {H : Type} {enc : TypeId × Value → H}

theorem Args.rowV {W : World} {σ : Sig} {h : AHeap} {avs : List AV} {vs : List Value} (A : Args W σ h avs vs) {t e : TypeId} {ks : List CK} {cs0 : List Value} {fuel : Nat} {x : DataW H × List MemPlace} (ht : P.underlying t = some (.slice e)) (hk : flatK P 10 e = some ks) (hz : 0 < ks.length)
    (hd : DataW.trod enc P W 0 (fun _ => true) true fuel t cs0 = some x) :
    ∃ σ', ∃ u, ∃ rows : List (List AV), cs0 = [u] ∧ (∀ r ∈ rows, FitsK ks r) ∧ rows.length ≤ maxLen ∧ Rel W σ' (h ++ [.cells rows.flatten ks.length .far none]) W ∧ VRs σ' avs vs ∧ VR σ' (.sl (some (h.length, 0)) rows.length 0 false) u := by
  have he := flat_open (H := H) (enc := enc) (P := P) (w := W) 10 hk
  rcases DataW.trod_slice ht hd with ⟨rfl, _⟩ | ⟨a, l0, c0, elems, rest, n, _, rfl, _, hb, hl, hm, hlen, hel, hsp0, _⟩
  · have R := A.rel.far1 (p := ⟨0, 0, 0⟩) (vs := []) (e := ks.length) (fun σ => .inl ⟨rfl, fun h => by cases h⟩) (fun h => absurd rfl h)
    exact ⟨_, _, [], rfl, by simp, Nat.zero_le _, R, A.vrs.grow _, .sln _ _ _ (by rw [← A.rel.len]; exact get_snoc _ _) rfl⟩
  · obtain ⟨rows, cs, h1, h2, h3, h4, h5⟩ := rows_at he he.1 (a := a) l0 fun i hi => by
      have := hel i hi
      rw [he.1, List.getElem?_eq_getElem (by omega)] at this
      exact ⟨_, this⟩
    have hfl : rows.flatten.length = l0 * ks.length := by rw [(h3 σ).length, h4]
    by_cases h00 : l0 = 0
    · have hrows : rows = [] := List.eq_nil_of_length_eq_zero (by omega)
      subst hrows
      have R := A.rel.far1 (p := ⟨a.block, a.off, c0⟩) (vs := []) (e := ks.length) (fun σ => .inl ⟨rfl, fun h => by cases h⟩) (fun h => absurd rfl h)
      subst h00
      refine ⟨_, _, [], rfl, by simp, Nat.zero_le _, R, A.vrs.grow _, .sl _ _ _ _ _ ⟨a.block, a.off, c0⟩ _ c0 (by rw [← A.rel.len]; exact get_snoc _ _) (Nat.zero_le _) (by simp [capOf]) ?_⟩
      by_cases hc0 : c0 = 0
      · exact .inr hc0
      · left
        obtain ⟨hr1, hr2⟩ := hsp0 rfl
        have hr := hr2 0 (by omega)
        rw [List.getElem?_eq_getElem (by omega)] at hr
        simp only [Option.bind_eq_some_iff] at hr
        obtain ⟨us, hu, _⟩ := hr
        rw [he.1] at hu
        obtain ⟨g1, g2⟩ := cells?_get hu
        obtain ⟨u0, hu0, hu1⟩ := g2 0 hz
        have hsp := (cells_row (W := W) (a := a) (vs := [u0]) (by simp) fun i v hi => by
          have hi0 : i = 0 := by
            have := (List.getElem?_eq_some_iff.1 hi).1
            simpa using this
          subst hi0
          simp at hi; subst hi
          rw [addr_add2] at hu1
          simpa using hu1).1
        obtain ⟨b0, o0, s0⟩ := a
        simp at hsp; subst hsp; rfl
    · have hne : rows.flatten ≠ [] := by
        intro h
        rw [h] at hfl
        have : 0 < l0 * ks.length := Nat.mul_pos (by omega) hz
        simp at hfl; omega
      have hcs : cs ≠ [] := by
        rintro rfl
        have := (h3 σ).length
        exact hne (List.eq_nil_of_length_eq_zero (by simpa using this))
      obtain ⟨hsp, c, t, fr, hb2, hw⟩ := cells_row hcs h5
      have R := A.rel.far1 (p := ⟨a.block, a.off, c0 - l0⟩) (vs := rows.flatten) (e := ks.length) (fun σ => .inr ⟨hne, c, t, fr, hb2, by rw [(h3 σ).length, ← hw]; exact h3 σ, fun h => by cases h⟩) (fun _ => (Array.getElem?_eq_some_iff.1 hb2).1)
      refine ⟨_, _, rows, rfl, h2, by omega, R, A.vrs.grow _, ?_⟩
      rw [h1]
      refine .sl _ _ _ _ _ ⟨a.block, a.off, c0 - l0⟩ _ c0 (by rw [← A.rel.len]; exact get_snoc _ _) hl (by simp [capOf]; omega) (.inl ?_)
      obtain ⟨b0, o0, s0⟩ := a
      simp at hsp; subst hsp; rfl

theorem flat_part {w : World} {rec : TypeId → Option (List CK)} (hrec : ∀ {t : TypeId} {ks : List CK}, rec t = some ks → FlatOk P w enc t ks) : ∀ (fs : List Field) (o n : Nat) {ks : List CK}, flatFields P rec fs o n = some ks → n = o + ks.length ∧
    ∀ (base : Nat) (spare : Nat → Bool) (held : Bool) (m : Nat) (cs : List Value), (∀ f ∈ fs, ∃ x, DataW.trod enc P w base spare held m f.type ((cs.drop f.offset).take (P.cellsOf f.type)) = some x) → ∃ avs, FitsK ks avs ∧ ∀ σ, VRs σ avs ((cs.drop o).take ks.length)
  | [], o, n, ks, h => by
    unfold flatFields at h
    split at h
    · rename_i hc
      simp at h; subst h
      exact ⟨by simp [hc], fun base spare held m cs _ => ⟨[], .nil, fun σ => .nil⟩⟩
    · simp at h
  | f :: fs, o, n, ks, h => by
    unfold flatFields at h
    split at h
    · rename_i l hl
      split at h
      · rename_i hc
        simp only [Option.map_eq_some_iff] at h
        obtain ⟨ms, hm, rfl⟩ := h
        have he := hrec hl
        obtain ⟨h1, h2⟩ := flat_part (w := w) hrec fs (o + l.length) n hm
        refine ⟨by rw [h1]; simp; omega, fun base spare held m cs hf => ?_⟩
        obtain ⟨x, hx⟩ := hf f (by simp)
        rw [hc.1, hc.2] at hx
        obtain ⟨a1, f1, v1⟩ := he.2 hx
        obtain ⟨a2, f2, v2⟩ := h2 base spare held m cs fun g hg => hf g (by simp [hg])
        refine ⟨a1 ++ a2, f1.append f2, fun σ => ?_⟩
        have := (v1 σ).append (v2 σ)
        rw [List.length_append, List.take_add, List.drop_drop]
        exact this
      · simp at h
    · simp at h

theorem Args.aTail {W : World} {σ : Sig} {h : AHeap} {avs : List AV} {vs : List Value} (A : Args W σ h avs vs) {t e : TypeId} {ks ke : List CK} {fs : Array Field} {fl : List Field} {f : Field} {n : Nat} {v : Value} {d : DataW H} {ps : List MemPlace}
    (hu : P.underlying t = some (.struct fs)) (hfs : fs.toList = fl ++ [f]) (hfl : flatFields P (flatK P 10) fl 0 n = some ks) (ho : f.offset = n) (hc : P.cellsOf f.type = 1) (hct : P.cellsOf t = n + 1) (ht : P.underlying f.type = some (.slice e)) (hk : flatK P 10 e = some ke) (hz : 0 < ke.length)
    (hval : Value.okWide P W .any 0 t v) (hd : DataW.Trod enc P W 0 (fun _ => true) true t v d ps) :
    ∃ σ', ∃ l, ∃ rows : List (List AV), FitsK ks l ∧ (∀ r ∈ rows, FitsK ke r) ∧ rows.length ≤ maxLen ∧ Args W σ' (h ++ [.cells rows.flatten ke.length .far none]) (avs ++ [.agg (l ++ [.sl (some (h.length, 0)) rows.length 0 false])]) (vs ++ [v]) := by
  obtain ⟨fuel, hd⟩ := hd
  unfold Value.okWide at hval
  rw [hu] at hval
  obtain ⟨cs, rfl, _⟩ := hval
  simp only [Value.cells] at hd
  obtain ⟨xs, m, rfl, _, hlen, hxl, hel⟩ := DataW.trod_struct hu hd
  have key : ∀ g ∈ fs.toList, ∃ x, DataW.trod enc P W 0 (fun _ => true) true m g.type ((cs.toList.drop g.offset).take (P.cellsOf g.type)) = some x := fun g hg => by
    obtain ⟨i, hi, rfl⟩ := List.getElem_of_mem hg
    have hi' : i < fs.size := by simpa using hi
    have := hel i _ (Array.getElem?_eq_getElem hi')
    rw [List.getElem?_eq_getElem (by omega)] at this
    exact ⟨_, by simpa using this⟩
  obtain ⟨hn, hp⟩ := flat_part (w := W) (enc := enc) (fun h => flat_open 10 h) fl 0 n hfl
  obtain ⟨l, hl, hv⟩ := hp 0 (fun _ => true) true m cs.toList fun g hg => key g (by rw [hfs]; exact List.mem_append_left _ hg)
  obtain ⟨x, hx⟩ := key f (by rw [hfs]; simp)
  rw [ho, hc] at hx
  obtain ⟨σ', u, rows, hu1, h2, h3, R, hvs, hsl⟩ := A.rowV ht hk hz hx
  refine ⟨σ', l, rows, hl, h2, h3, R, hvs.snoc (VR.agg _ _ ?_)⟩
  have e : cs.toList = cs.toList.take n ++ [u] := by
    rw [← hu1]
    have : (cs.toList.drop n).take 1 = cs.toList.drop n := List.take_of_length_le (by rw [List.length_drop, hlen, hct]; omega)
    rw [this, List.take_append_drop]
  have hv' := hv σ'
  rw [List.drop_zero, show ks.length = n by omega] at hv'
  rw [e]
  exact hv'.snoc hsl

end Go.Abs
