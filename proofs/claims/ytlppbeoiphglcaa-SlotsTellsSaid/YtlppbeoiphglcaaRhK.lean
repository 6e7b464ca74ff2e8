/- The reference's Shares: its contract. -/
import Derived.Test.YtlppbeoiphglcaaRhN
set_option autoImplicit false
set_option maxRecDepth 100000
set_option linter.unusedVariables false
set_option linter.unusedSimpArgs false
namespace Go.Proofs.Ytlppbeoiphglcaa.L
open Go Go.Abs

theorem bestI_uniq {l : List Int} {b : Nat} (hb : b < l.length) (h1 : ∀ x ∈ l, x ≤ l[b]) (h2 : ∀ j (hj : j < l.length), j < b → l[j] ≠ l[b]) : bestI l = b := by
  have hl : 0 < l.length := by omega
  obtain ⟨B1, _⟩ := bestI_lt hl
  have hg := bestI_get hl
  have hm : maxI l = l[b] := by
    have a := h1 _ (maxI_mem hl)
    have c := maxI_ge (List.getElem_mem hb)
    omega
  rcases Nat.lt_trichotomy (bestI l) b with h | h | h
  · exact absurd (hg.trans hm) (h2 _ B1 h)
  · exact h
  · exact absurd hm.symm (bestI_first hl hb h)
theorem bestI_step {l : List Int} {i : Nat} (h0 : 0 < i) (hi : i < l.length) : bestI (l.take (i + 1)) = if l[i] > l.getD (bestI (l.take i)) 0 then i else bestI (l.take i) := by
  have hl : 0 < (l.take i).length := by simp; omega
  obtain ⟨B1, _⟩ := bestI_lt hl
  have hg := bestI_get hl
  have hB : bestI (l.take i) < i := by simp at B1; omega
  have hB' : bestI (l.take i) < l.length := by omega
  have e : l.getD (bestI (l.take i)) 0 = maxI (l.take i) := by
    rw [getD_at hB', ← hg]; simp
  have mx : ∀ j (hj : j < l.length), j < i → l[j] ≤ maxI (l.take i) := fun j hj hji => maxI_ge (by rw [List.mem_take_iff_getElem]; exact ⟨j, by omega, rfl⟩)
  rw [e]
  have gt : ∀ j (hj : j < (l.take (i + 1)).length), (l.take (i + 1))[j] = l[j]'(by simp at hj; omega) := fun j hj => by simp
  by_cases h : l[i] > maxI (l.take i)
  · rw [if_pos h]
    refine bestI_uniq (by simp; omega) ?_ ?_
    · intro x hx
      rw [List.mem_take_iff_getElem] at hx
      obtain ⟨j, hj, rfl⟩ := hx
      rw [gt]
      by_cases e : j = i
      · subst e; exact Int.le_refl _
      · have := mx j (by omega) (by omega); omega
    · intro j hj hji
      rw [gt, gt]
      have := mx j (by omega) hji; omega
  · rw [if_neg h]
    have hv : l[bestI (l.take i)] = maxI (l.take i) := by rw [← getD_at hB', e]
    refine bestI_uniq (by simp; omega) ?_ ?_
    · intro x hx
      rw [List.mem_take_iff_getElem] at hx
      obtain ⟨j, hj, rfl⟩ := hx
      rw [gt, hv]
      by_cases e : j = i
      · subst e; omega
      · exact mx j (by omega) (by omega)
    · intro j hj hji
      rw [gt, gt, hv]
      have := bestI_first hl (i := j) (by simp; omega) hji
      simpa using this
theorem itP_w0 {P : PL} {i : Nat} (hi : i < P.length) : (itP P)[0 + (i : Int).toNat * 19 + 18]? = some (.int .i64 P[i].2) := by
  rw [show 0 + (i : Int).toNat * 19 + 18 = i * 19 + 18 by omega]; exact itP_n hi
theorem saysRh4 {C L : List AV} {r : List Int} {k : Nat} {l : Int} (hr : r.length = k) (h0 : 0 < k) (hk : k ≤ 1000) :
    LSays bRh4 3 (vRh4 k k l 0 1) (hRh C L (intL r)) (.exit 6) (vRh4 k k l (bestI r : Nat) k) (hRh C L (intL r)) := by
  have b1 : bestI (r.take 1) = 0 := by
    have := (bestI_lt (l := r.take 1) (by simp; omega)).1
    simp at this; omega
  refine says_up (fun j => vRh4 k k l (bestI (r.take (j + 1)) : Nat) ((j + 1 : Nat) : Int)) (N := k - 1) (by simp) (by rw [Nat.zero_add, b1]; rfl) (by
    show vRh4 k k l (bestI (r.take (k - 1 + 1)) : Nat) ((k - 1 + 1 : Nat) : Int) = _
    rw [show k - 1 + 1 = k by omega, ← hr, List.take_length]) (fun j hj => ?_) ⟨[(84, .bool false)], (nfRh4s ..).trans (if_pos (by simp; omega))⟩
  have hi : j + 1 < r.length := by omega
  have hB : bestI (r.take (j + 1)) < r.length := by
    have := (bestI_lt (l := r.take (j + 1)) (by simp; omega)).1
    simp at this; omega
  have hs := bestI_step (l := r) (i := j + 1) (by omega) hi
  rw [getD_at hB] at hs
  have e1 : intV (some (.int .i64 r[j + 1])) = r[j + 1] := rfl
  have e2 : intV (some (.int .i64 r[bestI (r.take (j + 1))])) = r[bestI (r.take (j + 1))] := rfl
  by_cases hgt : r[j + 1] > r[bestI (r.take (j + 1))]
  · rw [if_pos hgt] at hs
    refine ⟨[(84, .bool true), (95, .bool true)], (nfRh4a ..).trans ?_⟩
    simp only [intL_at hi, intL_at hB, e1, e2, wrap1 (i := j + 1) (by omega)]
    refine (if_pos (by simp; omega)).trans ?_
    refine (if_pos (by omega)).trans ?_
    refine (if_pos rfl).trans ?_
    refine (if_pos (by omega)).trans ?_
    refine (if_pos rfl).trans ?_
    refine (if_pos (by simpa using hgt)).trans ?_
    rw [hs]; rfl
  · rw [if_neg hgt] at hs
    refine ⟨[(84, .bool true), (95, .bool false)], (nfRh4b ..).trans ?_⟩
    simp only [intL_at hi, intL_at hB, e1, e2, wrap1 (i := j + 1) (by omega)]
    refine (if_pos (by simp; omega)).trans ?_
    refine (if_pos (by omega)).trans ?_
    refine (if_pos rfl).trans ?_
    refine (if_pos (by omega)).trans ?_
    refine (if_pos rfl).trans ?_
    refine (if_pos (by simpa using hgt)).trans ?_
    rw [hs]; rfl
theorem stepRh1 {P : PL} {n : Int} (hc : chkP P = 0) {i : Nat} (hi : i < P.length) :
    qround Try.prog tRh 100 4 [(27, .bool true)] noT RH1 mRh1 (vRh1 P.length n (sumL ((P.map Prod.snd).take i)) i) [.cells (itP P) 19 .far none] = some (.norm, vRh1 P.length n (sumL ((P.map Prod.snd).take (i + 1))) ((i + 1 : Nat) : Int), [.cells (itP P) 19 .far none]) := by
  have hl := chk_len hc
  have hb := sumW_bd hc i (by omega)
  have hw := chk_w hc hi
  have hs : sumL ((P.map Prod.snd).take (i + 1)) = sumL ((P.map Prod.snd).take i) + P[i].2 := by
    rw [sumL_take (by simpa using hi)]; simp
  have b1 : intV (some (.int .i64 P[i].2)) = P[i].2 := rfl
  have w1 : IntKind.i64.wrap (sumL ((P.map Prod.snd).take i) + P[i].2) = sumL ((P.map Prod.snd).take (i + 1)) := by rw [hs, wrapI64 (by omega)]
  refine (nfRh1a ..).trans ?_
  simp only [itP_w0 hi, b1, w1, wrap1 (i := i) (by omega)]
  refine (if_pos (by simp; omega)).trans ?_
  refine (if_pos (by omega)).trans ?_
  refine (if_pos rfl).trans ?_
  rfl
theorem stepRh2 {P : PL} {n : Int} (hc : chkP P = 0) (h0 : 0 ≤ n) (hn : n ≤ 64) {i : Nat} (hi : i < P.length) :
    ∃ vs1 h1, qround Try.prog tRh 100 4 [(41, .bool true)] noT RH2 mRh2 (vRh2 P.length i n (sumW P) (n - sumL ((qL P n).take i)) i) (hRh (itP P) (intL ((qL P n).take i)) (intL ((rL P n).take i))) = some (.norm, vs1, h1) ∧ Gc 1 vs1 h1 (vRh2 P.length (i + 1) n (sumW P) (n - sumL ((qL P n).take (i + 1))) ((i + 1 : Nat) : Int)) (hRh (itP P) (intL ((qL P n).take (i + 1))) (intL ((rL P n).take (i + 1)))) := by
  have hl := chk_len hc
  have hs := sumW_pos hc (by omega : 0 < P.length)
  have hb := nw_bd hc h0 hn hi
  have hq := qL_bd hc h0 hn (by omega : 0 < P.length)
  have hqi : i < (qL P n).length := by simpa using hi
  have hri : i < (rL P n).length := by simpa using hi
  have q1 : (qL P n)[i] = n * P[i].2 / sumW P := by simp [qL]
  have r1 : (rL P n)[i] = n * P[i].2 % sumW P := by simp [rL]
  have hqb := hq _ (List.getElem_mem hqi)
  have hsq := sumL_bd (l := (qL P n).take i) (B := 1024) fun x hx => hq x (List.mem_of_mem_take hx)
  have hqs : sumL ((qL P n).take (i + 1)) = sumL ((qL P n).take i) + (qL P n)[i] := sumL_take hqi
  have hlen : ((qL P n).take i).length = i := by simp; omega
  rw [hlen] at hsq
  have w1 : IntKind.i64.wrap (n * P[i].2) = n * P[i].2 := wrapI64 (by omega)
  have d1 : (n * P[i].2).tdiv (sumW P) = (qL P n)[i] := by rw [q1]; exact Int.tdiv_eq_ediv_of_nonneg hb.1
  have d2 : (n * P[i].2).tmod (sumW P) = (rL P n)[i] := by rw [r1]; exact Int.tmod_eq_emod_of_nonneg hb.1
  have eO : List.take (i * 1) (intL ((qL P n).take i)) ++ [AV.int IntKind.i64 (qL P n)[i]] = intL ((qL P n).take (i + 1)) := by
    rw [take_snoc hqi, Nat.mul_one, List.take_of_length_le (by simp; omega)]; unfold intL; rw [List.map_append]; rfl
  have eR : List.take (i * 1) (intL ((rL P n).take i)) ++ [AV.int IntKind.i64 (rL P n)[i]] = intL ((rL P n).take (i + 1)) := by
    rw [take_snoc hri, Nat.mul_one, List.take_of_length_le (by simp; omega)]; unfold intL; rw [List.map_append]; rfl
  have eG : (intL ((qL P n).take (i + 1)))[0 + (i : Int).toNat * 1]? = some (.int .i64 (qL P n)[i]) := by
    rw [intL_at (by simp; omega)]; simp
  have a1 : intV (some (.int .i64 P[i].2)) = P[i].2 := rfl
  have a2 : intV (some (.int .i64 (qL P n)[i])) = (qL P n)[i] := rfl
  have a3 : IntKind.i64.wrap (qL P n)[i] = (qL P n)[i] := wrapI64 (by omega)
  have a4 : IntKind.i64.wrap (n - sumL ((qL P n).take i) - (qL P n)[i]) = n - sumL ((qL P n).take (i + 1)) := by rw [hqs, wrapI64 (by omega)]; omega
  have a5 := wrap1 (i := i) (by omega)
  have row : qround Try.prog tRh 100 4 [(41, .bool true)] noT RH2 mRh2 (vRh2 P.length i n (sumW P) (n - sumL ((qL P n).take i)) i) (hRh (itP P) (intL ((qL P n).take i)) (intL ((rL P n).take i))) = some (.norm, [.sl (some (0, 0)) P.length 0 false, .int .i64 n, .int .i64 (sumW P), .sl (some (4, 0)) (i + 1) 0 false, .sl (some (6, 0)) (i + 1) 0 false, .int .i64 (n - sumL ((qL P n).take (i + 1))), .int .i64 ((i + 1 : Nat) : Int)], [.cells (itP P) 19 .far none, .cells (intL ((qL P n).take i)) 1 .ro none, .cells (intL ((rL P n).take i)) 1 .ro none, .cells [.int .i64 (qL P n)[i]] 1 .own none, .cells (intL ((qL P n).take (i + 1))) 1 .own (some 1), .cells [.int .i64 (rL P n)[i]] 1 .own none, .cells (intL ((rL P n).take (i + 1))) 1 .own (some 2)]) := by
    refine (nfRh2a ..).trans ?_
    unfold hRh2a0
    simp only [itP_w0 hi, a1, w1, d1, d2, a3, eO, eR, eG, a2, a4, a5]
    refine (if_pos (by simp; omega)).trans ?_
    refine (if_pos (by omega)).trans ?_
    refine (if_pos rfl).trans ?_
    refine (if_neg (by omega)).trans ?_
    refine (if_pos ⟨by omega, trivial, by omega⟩).trans ?_
    refine (if_pos (by simp; omega)).trans ?_
    refine (if_pos ⟨trivial, by simp; omega, .inl (by decide), trivial, rfl⟩).trans ?_
    refine (if_pos (by omega)).trans ?_
    refine (if_pos rfl).trans ?_
    refine (if_neg (by omega)).trans ?_
    refine (if_pos ⟨by omega, trivial, by omega⟩).trans ?_
    refine (if_pos (by simp; omega)).trans ?_
    refine (if_pos ⟨trivial, by simp; omega, .inl (by decide), trivial, rfl⟩).trans ?_
    refine (if_pos (by omega)).trans ?_
    refine (if_pos rfl).trans ?_
    rfl
  refine ⟨_, _, row, ?_⟩
  unfold vRh2 hRh
  exact Gc.by [0, 4, 6] rfl (by decide) (.cons _ _ _ _ (.sl _ _ _ _ _ _ rfl) (.cons _ _ _ _ (.free _ rfl) (.cons _ _ _ _ (.free _ rfl) (.cons _ _ _ _ (.sl _ _ _ _ _ _ rfl) (.cons _ _ _ _ (.sl _ _ _ _ _ _ rfl) (.free _ rfl))))))
    (.cons _ _ _ _ _ rfl (.row (itP_frees _) (by simp)) (.cons _ _ _ _ _ rfl (.row (frees_ints _) (by intro p j h; injection h with h; subst h; exact nofun)) (.cons _ _ _ _ _ rfl (.row (frees_ints _) (by intro p j h; injection h with h; subst h; exact nofun)) .nil)))

end Go.Proofs.Ytlppbeoiphglcaa.L
