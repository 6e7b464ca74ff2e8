/- Servers and their slots: what the laws need. -/
import Derived.Test.YtlppbeoiphglcaaFlR
import Derived.Test.YtlppbeoiphglcaaFlU
set_option autoImplicit false
set_option maxRecDepth 100000
set_option linter.unusedVariables false
set_option linter.unusedSimpArgs false
namespace Go.Proofs.Ytlppbeoiphglcaa.L
open Go Go.Abs

theorem rowDs_nil (h : AHeap) (e : Bool) : rowDs h (.sl none 0 0 e) [] := ⟨rfl, rfl⟩
theorem chk_of {P : PL} (h1 : P.length ≤ 32) (h2 : ∀ i (hi : i < P.length), mOk P[i] = true) (h3 : ∀ i k (hi : i < P.length) (hk : k < P.length), P[i].1 = P[k].1 → i = k) : chkP P = 0 := by
  rw [chk_iff]
  refine ⟨h1, fun i hi => ?_⟩
  rw [badAt_some hi, h2 i hi, decide_eq_false]
  · rfl
  · intro hm
    obtain ⟨p, hp, e⟩ := List.mem_map.1 hm
    rw [List.mem_take_iff_getElem] at hp
    obtain ⟨j, hj, rfl⟩ := hp
    have := h3 j i (by omega) hi e
    omega
theorem svN_mok (W : List Int) (v : Bool) (n i : Nat) (hi : i < n) : mOk ((svN W v n)[i]'(by simpa using hi)) = true := by
  rw [svN_get W v hi]
  simp [mOk, dipN_ok]
  omega
theorem svN_chk (W : List Int) (v : Bool) (n : Nat) (hn : n ≤ 32) : chkP (svN W v n) = 0 := by
  refine chk_of (by simpa using hn) (fun i hi => svN_mok W v n i (by simpa using hi)) (fun i k hi hk h => ?_)
  simp only [svN_len] at hi hk
  rw [svN_get W v hi, svN_get W v hk] at h
  have := (dipN_inj (by omega) (by omega)).1 h
  omega
theorem fill_ok {P : PL} {D : List DipC} {n : Int} (h1 : 1 ≤ n) (h2 : n ≤ 64) (hc : chkP P = 0) (hp : 0 < P.length) (hD : D = [] ∨ (D.length : Int) = n) :
    fillE P D n = 0 ∧ fillP P D n = flX P D (shP P n) n.toNat ∧ (shP P n).length = P.length ∧ (∀ x ∈ shP P n, 0 ≤ x) ∧ sumL (shP P n) = n.toNat ∧ (D = [] ∨ D.length = n.toNat) := by
  have hpe : P ≠ [] := by rintro rfl; simp at hp
  have hb : ¬ badF P D n := by
    unfold badF
    rintro (h | h | h | ⟨h, h'⟩)
    · omega
    · omega
    · exact h hc
    · rcases hD with hD | hD
      · exact h hD
      · exact h' hD
  refine ⟨by unfold fillE; rw [if_neg hb], by unfold fillP; rw [if_neg (by rintro (h | h); exact hb h; exact hpe h)], shP_len (by omega) h2 hc hpe, shP_nonneg (by omega) h2 hc hp, by rw [shP_sum (by omega) h2 hc hp]; omega, ?_⟩
  rcases hD with hD | hD
  · exact .inl hD
  · exact .inr (by omega)
section
variable {P : PL} {D : List DipC} {n : Int} (h1 : 1 ≤ n) (h2 : n ≤ 64) (hc : chkP P = 0) (hp : 0 < P.length)
include h1 h2 hc hp
theorem fill_len (hD : D = [] ∨ (D.length : Int) = n) : (fillP P D n).length = n.toNat := by
  obtain ⟨_, e, a, b, c, d⟩ := fill_ok h1 h2 hc hp hD
  rw [e]; exact flX_len a b c
theorem fill_cnt (hD : D = [] ∨ (D.length : Int) = n) {k : Nat} (hk : k < P.length) : (cntD (fillP P D n) P[k].1 : Int) = (shP P n).getD k 0 := by
  obtain ⟨_, e, a, b, c, d⟩ := fill_ok h1 h2 hc hp hD
  rw [e]; exact flX_cnt hc a b c d hk
theorem fill_stay (hD : (D.length : Int) = n) {k : Nat} (hk : k < P.length) (hle : (cntD D P[k].1 : Int) ≤ (shP P n).getD k 0) {x : Nat} (hx : x < n.toNat) (he : D[x]? = some P[k].1) : (fillP P D n)[x]? = some P[k].1 := by
  obtain ⟨_, e, a, b, c, d⟩ := fill_ok h1 h2 hc hp (.inr hD)
  rw [e]; exact flX_stay hc a b c (by omega) hk hle hx he
theorem fill_moved (hD : (D.length : Int) = n) : (movP D (fillP P D n) : Int) = sumL ((List.range P.length).map fun k => max ((shP P n).getD k 0 - cntD D (P.getD k (zD, 0)).1) 0) := by
  obtain ⟨_, e, a, b, c, d⟩ := fill_ok h1 h2 hc hp (.inr hD)
  rw [e, flX_moved hc a b c (by omega)]
  congr 1
  refine List.ext_getElem (by rw [(fl1_inv (D := D) a b c _ (Nat.le_refl _)).len]; simp) fun k h3 h4 => ?_
  have hk : k < P.length := by simpa using h4
  have hg : P.getD k (zD, 0) = P[k] := by rw [List.getD_eq_getElem?_getD, List.getElem?_eq_getElem hk, Option.getD_some]
  have := fl1_left hc a b c (by omega : D.length = n.toNat) hk
  rw [getD_at h3] at this
  rw [this, List.getElem_map, List.getElem_range, hg]
end

end Go.Proofs.Ytlppbeoiphglcaa.L
