/- slots.Shares: the run, and its contract. -/
import Derived.Test.YtlppbeoiphglcaaShP
set_option autoImplicit false
set_option maxRecDepth 100000
set_option linter.unusedVariables false
set_option linter.unusedSimpArgs false
namespace Go.Proofs.Ytlppbeoiphglcaa.L
open Go Go.Abs

theorem tShOk : ∀ f E, tSh.find f = some E → SoundE Try.prog f E := find_cons sMax (find_cons sIdx (find_cons sCkF (find_nil _)))
theorem runShl {P : PL} {n : Int} (h : n < 0 ∨ 64 < n ∨ chkP P ≠ 0 ∨ P = []) : ∃ h', Runs Try.prog 15 [.sl (some (0, 0)) P.length 0 false, .int .i64 n] [.cells (itP P) 19 .far none] (.sl none 0 0 true) h' := by
  refine Runs.valT0 tShOk (F := 100) (n := 4) (pr := [(28, .bool true)]) ?_
  refine (nfShl ..).trans ?_
  by_cases h0 : n < 0
  · exact if_pos (decide_eq_true h0)
  refine (if_neg (by simpa using h0)).trans ?_
  by_cases h1 : 64 < n
  · exact if_pos (decide_eq_true h1)
  refine (if_neg (by simpa using h1)).trans ?_
  obtain ⟨a, b⟩ := ckF_ok (rowP_blk (P := P) (h := hShl0 (itP P) P.length n) (k := 0) (n := P.length) (r := 0) (e := false) rfl rfl)
  refine (if_pos (cdec_true.2 a)).trans ?_
  rw [b]
  by_cases h2 : chkP P ≠ 0
  · exact if_pos (by simpa using h2)
  refine (if_neg (by simpa using h2)).trans ?_
  have h3 : P = [] := by
    rcases h with h | h | h | h
    · exact absurd h h0
    · exact absurd h h1
    · exact absurd h h2
    · exact h
  subst h3
  exact if_pos rfl
theorem stepSh1 {P : PL} {n : Int} (hc : chkP P = 0) {i : Nat} (hi : i < P.length) :
    ∃ vs1 h1, qround Try.prog tSh 100 4 [(33, .bool true)] noT SH1 mSh1 (vSh1 P.length n (sumL ((P.map Prod.snd).take i)) i) [.cells (itP P) 19 .far none] = some (.norm, vs1, h1) ∧ Gc 1 vs1 h1 (vSh1 P.length n (sumL ((P.map Prod.snd).take (i + 1))) ((i + 1 : Nat) : Int)) [.cells (itP P) 19 .far none] := by
  have e2 : 0 + (i : Int).toNat * 19 = i * 19 := by omega
  have hl := chk_len hc
  have hb := sumW_bd hc i (by omega)
  have hw := chk_w hc hi
  have hs : sumL ((P.map Prod.snd).take (i + 1)) = sumL ((P.map Prod.snd).take i) + P[i].2 := by
    rw [sumL_take (by simpa using hi)]; simp
  have row : qround Try.prog tSh 100 4 [(33, .bool true)] noT SH1 mSh1 (vSh1 P.length n (sumL ((P.map Prod.snd).take i)) i) [.cells (itP P) 19 .far none] = some (.norm, vSh1 P.length n (sumL ((P.map Prod.snd).take (i + 1))) ((i + 1 : Nat) : Int), [.cells (itP P) 19 .far none] ++ [.cells (illC P[i].1 P[i].2) 19 .own none]) := by
    refine (nfSh1a ..).trans ?_
    unfold hSh1a0
    rw [e2, itP_19 hi, putC, illC_18, wrap1 (by omega)]
    refine (if_pos (by simp; omega)).trans ?_
    refine (if_pos (by omega)).trans ?_
    refine (if_pos (by rw [itP_length]; omega)).trans ?_
    refine (if_pos (by simp)).trans ?_
    refine (if_pos ⟨by simp, illC_cell _ _⟩).trans ?_
    refine (if_pos rfl).trans ?_
    rw [hs]
    show some (AEx.norm, [_, _, _, AV.int IntKind.i64 (IntKind.i64.wrap (_ + P[i].2)), _, _, _, _], _) = _
    rw [wrapI64 (by omega)]
    rfl
  refine ⟨_, _, row, ?_⟩
  exact Gc.drop (h := [.cells (itP P) 19 .far none]) (X := [_]) 1 rfl rfl (by
    intro b hb
    simp only [List.mem_cons, List.not_mem_nil, or_false] at hb
    subst hb
    exact okU_free (itP_frees _) (by simp))
def zeros (k : Nat) : List Int := List.replicate k 0
noncomputable def rAt (P : PL) (n : Int) (i : Nat) : List Int := (rL P n).take i ++ zeros (P.length - i)
theorem rAt_set {P : PL} {n : Int} {i : Nat} (hi : i < P.length) : (rAt P n i).set i (rL P n)[i]! = rAt P n (i + 1) := by
  have hr : i < (rL P n).length := by simpa using hi
  rw [getElem!_pos (rL P n) i hr]
  unfold rAt zeros
  rw [take_snoc hr, show P.length - i = (P.length - (i + 1)) + 1 from by omega, List.replicate_succ, List.set_append]
  simp [Nat.min_eq_left (Nat.le_of_lt hi)]
  rw [take_snoc hr, List.append_assoc]; rfl
theorem rAt_len {P : PL} {n : Int} {i : Nat} (hi : i ≤ P.length) : (rAt P n i).length = P.length := by
  unfold rAt zeros; simp; omega
theorem stepSh2 {P : PL} {n : Int} (hc : chkP P = 0) (h0 : 0 ≤ n) (hn : n ≤ 64) {i : Nat} (hi : i < P.length) :
    ∃ vs1 h1, qround Try.prog tSh 100 4 [(47, .bool true)] noT SH2 mSh2 (vSh2 P.length i n (sumW P) (n - sumL ((qL P n).take i)) i) (hSh (itP P) (intL (rAt P n i)) (intL ((qL P n).take i))) = some (.norm, vs1, h1) ∧ Gc 2 vs1 h1 (vSh2 P.length (i + 1) n (sumW P) (n - sumL ((qL P n).take (i + 1))) ((i + 1 : Nat) : Int)) (hSh (itP P) (intL (rAt P n (i + 1))) (intL ((qL P n).take (i + 1)))) := by
  have e2 : 0 + (i : Int).toNat * 19 = i * 19 := by omega
  have hl := chk_len hc
  have hs := sumW_pos hc (by omega : 0 < P.length)
  have hb := nw_bd hc h0 hn hi
  have hq := qL_bd hc h0 hn (by omega : 0 < P.length)
  have hqi : i < (qL P n).length := by simpa using hi
  have hri : i < (rL P n).length := by simpa using hi
  have q1 : (qL P n)[i] = n * P[i].2 / sumW P := by simp [qL]
  have r1 : (rL P n)[i]! = n * P[i].2 % sumW P := by rw [getElem!_pos (rL P n) i hri]; simp [rL]
  have hqb := hq _ (List.getElem_mem hqi)
  have hsq := sumL_bd (l := (qL P n).take i) (B := 1024) fun x hx => hq x (List.mem_of_mem_take hx)
  have hqs : sumL ((qL P n).take (i + 1)) = sumL ((qL P n).take i) + (qL P n)[i] := sumL_take hqi
  have hlen : ((qL P n).take i).length = i := by simp; omega
  rw [hlen] at hsq
  have w1 : IntKind.i64.wrap (n * P[i].2) = n * P[i].2 := wrapI64 (by omega)
  have d1 : (n * P[i].2).tdiv (sumW P) = (qL P n)[i] := by rw [q1]; exact Int.tdiv_eq_ediv_of_nonneg hb.1
  have d2 : (n * P[i].2).tmod (sumW P) = (rL P n)[i]! := by rw [r1]; exact Int.tmod_eq_emod_of_nonneg hb.1
  have eO : List.take (i * 1) (intL ((qL P n).take i)) ++ [AV.int IntKind.i64 (qL P n)[i]] = intL ((qL P n).take (i + 1)) := by
    rw [take_snoc hqi, Nat.mul_one, List.take_of_length_le (by simp; omega)]; unfold intL; rw [List.map_append]; rfl
  have eG : (intL ((qL P n).take (i + 1)))[0 + (i : Int).toNat * 1]? = some (.int .i64 (qL P n)[i]) := by
    rw [intL_at (by simp; omega)]; simp
  have row : qround Try.prog tSh 100 4 [(47, .bool true)] noT SH2 mSh2 (vSh2 P.length i n (sumW P) (n - sumL ((qL P n).take i)) i) (hSh (itP P) (intL (rAt P n i)) (intL ((qL P n).take i))) = some (.norm, [.int .i64 n, .sl (some (5, 0)) (i + 1) 0 false, .int .i64 (sumW P), .int .i64 (n - sumL ((qL P n).take (i + 1))), .sl (some (1, 0)) P.length 0 false, .sl (some (0, 0)) P.length 0 false, .int .i64 P.length, .int .i64 ((i + 1 : Nat) : Int)], [.cells (itP P) 19 .far none, .cells (intL (rAt P n (i + 1))) 1 .own none, .cells (intL ((qL P n).take i)) 1 .ro none, .cells (illC P[i].1 P[i].2) 19 .own none, .cells [.int .i64 (qL P n)[i]] 1 .own none, .cells (intL ((qL P n).take (i + 1))) 1 .own (some 2)]) := by
    refine (nfSh2a ..).trans ?_
    unfold hSh2a0
    rw [e2, itP_19 hi, putC, illC_18]
    have a1 : intV (some (.int .i64 P[i].2)) = P[i].2 := rfl
    have a2 : intV (some (.int .i64 (qL P n)[i])) = (qL P n)[i] := rfl
    have a3 : IntKind.i64.wrap (qL P n)[i] = (qL P n)[i] := wrapI64 (by omega)
    have a4 : IntKind.i64.wrap (n - sumL ((qL P n).take i) - (qL P n)[i]) = n - sumL ((qL P n).take (i + 1)) := by rw [hqs, wrapI64 (by omega)]; omega
    have a5 := wrap1 (i := i) (by omega)
    have a6 := intL_put (l := rAt P n i) (i := i) (by rw [rAt_len (by omega)]; exact hi) (rL P n)[i]!
    rw [rAt_set hi] at a6
    simp only [a1, w1, d1, d2, a3, eO, eG, a2, a4, a5, a6]
    refine (if_pos (by simp; omega)).trans ?_
    refine (if_pos (by omega)).trans ?_
    refine (if_pos (by rw [itP_length]; omega)).trans ?_
    refine (if_pos (by simp)).trans ?_
    refine (if_pos ⟨by simp, illC_cell _ _⟩).trans ?_
    refine (if_pos rfl).trans ?_
    refine (if_neg (by omega)).trans ?_
    refine (if_pos ⟨by omega, trivial, by omega⟩).trans ?_
    refine (if_pos (by simp; omega)).trans ?_
    refine (if_pos ⟨trivial, by simp; omega, .inl (by decide), trivial, rfl⟩).trans ?_
    refine (if_pos rfl).trans ?_
    refine (if_neg (by omega)).trans ?_
    refine (if_pos (by omega)).trans ?_
    refine (if_pos ⟨by simp [rAt_len (Nat.le_of_lt hi)]; omega, rfl⟩).trans ?_
    refine (if_pos (by omega)).trans ?_
    refine (if_pos rfl).trans ?_
    rfl
  refine ⟨_, _, row, ?_⟩
  unfold vSh2 hSh
  exact Gc.by [0, 1, 5] rfl (by decide) (.cons _ _ _ _ (.free _ rfl) (.cons _ _ _ _ (.sl _ _ _ _ _ _ rfl) (.cons _ _ _ _ (.free _ rfl) (.cons _ _ _ _ (.free _ rfl) (.cons _ _ _ _ (.sl _ _ _ _ _ _ rfl) (.cons _ _ _ _ (.sl _ _ _ _ _ _ rfl) (.free _ rfl)))))))
    (.cons _ _ _ _ _ rfl (.row (itP_frees _) (by simp)) (.cons _ _ _ _ _ rfl (.row (frees_ints _) (by simp)) (.cons _ _ _ _ _ rfl (.row (frees_ints _) (by intro p j h; injection h with h; subst h; exact nofun)) .nil)))
noncomputable def sit (P : PL) (n : Int) (j : Nat) : List Int × List Int := siter j (qL P n, rL P n)
theorem stepSh3 {P : PL} {n l : Int} (hc : chkP P = 0) (h0 : 0 ≤ n) (hn : n ≤ 64) (hp : 0 < P.length) {j : Nat} (hj : j ≤ 1000) (hl : 0 < l) (hl2 : l ≤ 1000) :
    qround Try.prog tSh 100 4 [(77, .bool true)] noT SH3 mSh3 (vSh3 P.length P.length l) (hSh (itP P) (intL (sit P n j).2) (intL (sit P n j).1)) = some (.norm, vSh3 P.length P.length (l - 1), hSh (itP P) (intL (sit P n (j + 1)).2) (intL (sit P n (j + 1)).1)) := by
  have hPl := chk_len hc
  obtain ⟨a, b⟩ := siter_len (qL P n, rL P n) j
  have hb := siter_bd (qL P n, rL P n) 1024 (qL_bd hc h0 hn hp) (by simpa using hp) (by simp) j
  change (sit P n j).1.length = _ at a
  change (sit P n j).2.length = _ at b
  change ∀ x ∈ (sit P n j).1, _ at hb
  simp only [qL_len, rL_len] at a b
  generalize hs : sit P n j = s at *
  have hs' : sit P n (j + 1) = sstep s := by rw [← hs]; rfl
  rw [hs']
  obtain ⟨q, r⟩ := s
  dsimp only at a b hb ⊢
  obtain ⟨B1, B2⟩ := bestI_lt (l := r) (by omega)
  have hr0 : rowOf (hSh3a0 (itP P) (intL r) (intL q) P.length P.length l) (AV.sl (some (1, 0)) P.length 0 false) = intL r := (rowL_blk (l := r) (h := hSh3a0 (itP P) (intL r) (intL q) P.length P.length l) (k := 1) (n := P.length) (r := 0) (e := false) rfl b.symm).2
  have hr1 : rowI (hSh3a0 (itP P) (intL r) (intL q) P.length P.length l) (AV.sl (some (1, 0)) P.length 0 false) r := rowL_blk (l := r) rfl b.symm
  have hq : bestI r < q.length := by omega
  have hqb := hb _ (List.getElem_mem hq)
  have e1 : opq (idxI r (opq (maxI r))) = (bestI r : Int) := by rw [opq_eq, opq_eq]; exact B2
  have e2 : intV (some (.int .i64 q[bestI r])) = q[bestI r] := rfl
  have e3 : IntKind.i64.wrap (q[bestI r] + 1) = q[bestI r] + 1 := wrapI64 (by omega)
  have e4 : IntKind.i64.wrap (l - 1) = l - 1 := wrapI64 (by omega)
  have e5 : sstep (q, r) = (q.set (bestI r) (q[bestI r] + 1), r.set (bestI r) (-1)) := by
    unfold sstep; simp only [List.getD_eq_getElem?_getD, List.getElem?_eq_getElem hq, Option.getD_some]
  refine (nfSh3a ..).trans ?_
  unfold hSh3a1
  simp only [hr0, ilOf_eq, e1, intL_at hq, e2, e3, intL_put hq, intL_put B1, e4]
  rw [e5]
  refine (if_pos (by simpa using hl)).trans ?_
  refine (if_pos (cdec_true.2 ⟨hr1, by simp [nOf]; omega, by simp [nOf]; omega⟩)).trans ?_
  refine (if_pos (cdec_true.2 ⟨hr1, by simp [nOf]; omega⟩)).trans ?_
  refine (if_pos (by omega)).trans ?_
  refine (if_pos rfl).trans ?_
  refine (if_pos (by omega)).trans ?_
  refine (if_pos ⟨by simp; omega, rfl⟩).trans ?_
  refine (if_pos (by omega)).trans ?_
  refine (if_pos ⟨by simp; omega, rfl⟩).trans ?_
  rfl
theorem zrep_ints (k : Nat) : zrep k [AV.int .i64 0] = List.replicate k (AV.int .i64 0) := by
  induction k with
  | zero => rfl
  | succ k ih => rw [zrep_succ, ih]; rfl
theorem three {c : Code} {k k2 k3 : Nat} {s s2 s3 : LoopF} (h : loopsOf c = [loopIn c 0, loopIn c 1, loopIn c 2]) (h1 : firstReg (loopIn c 0) = k) (h2 : firstReg (loopIn c 1) = k2) (h3 : firstReg (loopIn c 2) = k3) (hk : k ≠ k2) (hk3 : k ≠ k3) (hk23 : k2 ≠ k3) (hs : SoundS Try.prog s (loopIn c 0)) (hs2 : SoundS Try.prog s2 (loopIn c 1)) (hs3 : SoundS Try.prog s3 (loopIn c 2)) :
    ∀ b ∈ loopsOf c, ∀ s', lsOf [(k, s), (k2, s2), (k3, s3)] (firstReg b) = some s' → SoundS Try.prog s' b := by
  intro b hb s' hs'
  rw [h] at hb
  simp only [List.mem_cons, List.not_mem_nil, or_false] at hb
  rcases hb with rfl | rfl | rfl
  · simp only [lsOf, h1, if_true] at hs'
    cases hs'; exact hs
  · simp only [lsOf, h2, if_neg hk, if_true] at hs'
    cases hs'; exact hs2
  · simp only [lsOf, h3, if_neg hk3, if_neg hk23, if_true] at hs'
    cases hs'; exact hs3
theorem runShm {P : PL} {n : Int} (h0 : 0 ≤ n) (hn : n ≤ 64) (hc : chkP P = 0) (hp : 0 < P.length) : ∃ R, Runs Try.prog 15 [.sl (some (0, 0)) P.length 0 false, .int .i64 n] [.cells (itP P) 19 .far none] (.sl (some (2, 0)) P.length 0 false) (hSh (itP P) R (intL (shP P n))) := by
  have hl := chk_len hc
  have lp : loopsOf (bodyOf Try.prog 15) = [SH1, SH2, SH3] := by kernel_rfl
  have hsw : sumL ((P.map Prod.snd).take P.length) = sumW P := by rw [List.take_of_length_le (by simp)]; rfl
  have hq := qL_bd hc h0 hn hp
  have hsq := sumL_bd hq
  rw [qL_len] at hsq
  have hle : leftS P n = n - sumL (qL P n) := rfl
  have k1 : True → ∃ k, GReach (roundG Try.prog (deepT Try.prog tSh 100 4) (lsT noT) SH1 mSh1) 1 k (vSh1 P.length n 0 0) [.cells (itP P) 19 .far none] (.exit 0) (vSh1 P.length n (sumW P) P.length) [.cells (itP P) 19 .far none] := by
    intro _
    refine loop_T (fun i => (vSh1 P.length n (sumL ((P.map Prod.snd).take i)) i, [.cells (itP P) 19 .far none])) (N := P.length) (by simp) (fun i hi => ⟨_, stepSh1 hc hi⟩) ⟨[(33, .bool false)], _, _, (nfSh1s ..).trans (if_pos (by simp)), ?_⟩
    rw [hsw]; exact Gc.refl
  have k2 : True → ∃ vs2 h2, Pre 2 (vSh2z P.length n (sumW P) n 0) [.cells (itP P) 19 .far none, .cells (List.replicate P.length (.int .i64 0)) 1 .own none] vs2 h2 ∧ ∃ k, GReach (roundG Try.prog (deepT Try.prog tSh 100 4) (lsT noT) SH2 mSh2) 2 k vs2 h2 (.exit 2) (vSh2 P.length P.length n (sumW P) (leftS P n) P.length) (hSh (itP P) (intL (rL P n)) (intL (qL P n))) := by
    intro _
    refine ⟨vSh2 P.length 0 n (sumW P) (n - sumL ((qL P n).take 0)) ((0 : Nat) : Int), hSh (itP P) (intL (rAt P n 0)) (intL ((qL P n).take 0)), ?_, loop_T (fun i => (vSh2 P.length i n (sumW P) (n - sumL ((qL P n).take i)) i, hSh (itP P) (intL (rAt P n i)) (intL ((qL P n).take i)))) (N := P.length) (by simp) (fun i hi => ⟨_, stepSh2 hc h0 hn hi⟩) ⟨[(47, .bool false)], _, _, (nfSh2s ..).trans (if_pos (by simp)), ?_⟩⟩
    · have e1 : rAt P n 0 = zeros P.length := by simp [rAt]
      rw [e1]
      simp only [List.take_zero, sumL_nil, Int.sub_zero]
      refine Pre.nil1 1 ?_ ?_
      · exact .same _ _ _ (.void _ _ _ (NRs.refl _))
      · simp [hSh, zeros, intL]
    · have e1 : rAt P n P.length = rL P n := by unfold rAt zeros; rw [Nat.sub_self, List.take_of_length_le (by simp)]; simp
      have e2 : (qL P n).take P.length = qL P n := List.take_of_length_le (by simp)
      rw [e1, e2, hle]; exact Gc.refl
  have k3 : True → ∃ k, GReach (roundG Try.prog (deepT Try.prog tSh 100 4) (lsT noT) SH3 mSh3) 3 k (vSh3 P.length P.length (leftS P n)) (hSh (itP P) (intL (rL P n)) (intL (qL P n))) (.exit 4) (vSh3 P.length P.length (leftS P n - (leftS P n).toNat)) (hSh (itP P) (intL (sit P n (leftS P n).toNat).2) (intL (sit P n (leftS P n).toNat).1)) := by
    intro _
    have g0 : leftS P n = leftS P n - ((0 : Nat) : Int) := by omega
    rw [show vSh3 P.length P.length (leftS P n) = vSh3 P.length P.length (leftS P n - ((0 : Nat) : Int)) from congrArg _ g0]
    refine loop_T (fun j => (vSh3 P.length P.length (leftS P n - (j : Nat)), hSh (itP P) (intL (sit P n j).2) (intL (sit P n j).1))) (N := (leftS P n).toNat) (by simp) (fun j hj => ⟨[(77, .bool true)], _, _, stepSh3 hc h0 hn hp (by omega) (by omega) (by omega), ?_⟩) ⟨[(77, .bool false)], _, _, (nfSh3s ..).trans (if_pos (by simp; omega)), Gc.refl⟩
    simp only [show leftS P n - (j : Int) - 1 = leftS P n - ((j + 1 : Nat) : Int) from by omega]
    exact Gc.refl
  have hsh : shP P n = (sit P n (leftS P n).toNat).1 := by
    unfold shP; rw [if_neg]; rfl
    intro hh
    rcases hh with h | h | h | h
    · omega
    · omega
    · exact h hc
    · subst h; simp at hp
  rw [hsh]
  refine ⟨intL (sit P n (leftS P n).toNat).2, ?_⟩
  refine Runs.ofT tShOk (F := 100) (n := 4) (pr := [(28, .bool false)]) (three (k := 5) (k2 := 11) (k3 := 17) lp rfl rfl rfl (by decide) (by decide) (by decide) (fixC_T tShOk (F := 100) (n := 4) (LS := noT) (noLoops (by kernel_rfl)) k1) (fixP_T tShOk (F := 100) (n := 4) (LS := noT) (noLoops (by kernel_rfl)) k2) (fixC_T tShOk (F := 100) (n := 4) (LS := noT) (noLoops (by kernel_rfl)) k3)) ?_
  refine (nfShm ..).trans ?_
  obtain ⟨a, b⟩ := ckF_ok (rowP_blk (P := P) (h := [ABlk.cells (itP P) 19 Md.far none]) (k := 0) (n := P.length) (r := 0) (e := false) rfl rfl)
  refine (if_neg (by simpa using h0)).trans ?_
  refine (if_neg (by simpa using hn)).trans ?_
  refine (if_pos (cdec_true.2 a)).trans ?_
  refine (if_neg (by unfold hShm0; rw [b, hc]; decide)).trans ?_
  refine (if_pos (by simp; intro h; subst h; simp at hp)).trans ?_
  refine (if_pos (cdec_true.2 ⟨trivial, rfl, rfl⟩)).trans ?_
  refine (if_pos ⟨rfl, by decide, by omega, by omega, by omega, by omega⟩).trans ?_
  refine (if_pos (cdec_true.2 ⟨trivial, rfl, by unfold hShm2 hShm3; rw [Int.toNat_natCast, zrep_ints]⟩)).trans ?_
  refine (if_pos (cdec_true.2 ⟨trivial, rfl, rfl⟩)).trans ?_
  rfl
inductive ShR : List AV → AHeap → AV → AHeap → Prop
  | mk (P : PL) (n : Int) (h : AHeap) (a : AV) (g : rowP h a P) (L : List Int) (k : Nat) (hL : shP P n = L) (hk : k = L.length) : ShR [a, .int .i64 n] h (.sl (some (h.length, 0)) k 0 false) [.cells (intL L) 1 .own none]
theorem shP_len {P : PL} {n : Int} (h0 : 0 ≤ n) (hn : n ≤ 64) (hc : chkP P = 0) (hp : P ≠ []) : (shP P n).length = P.length := by
  unfold shP; rw [if_neg]
  · have := (siter_len (qL P n, rL P n) (leftS P n).toNat).1
    simpa using this
  · intro hh
    rcases hh with h | h | h | h
    · omega
    · omega
    · exact h hc
    · exact hp h
theorem kSh : ∀ args h v new, ShR args h v new → ∃ args1 h1, Canons h 0 args args1 h1 ∧ ∃ v1 h1', Runs Try.prog 15 args1 h1 v1 h1' ∧ ∃ ks, Den h1' h1.length h.length ks v1 v new ∧ KsOk ks := by
  intro args h v new hR
  cases hR with
  | mk P n _ a g L k hL hk =>
  subst hL hk
  have ca : Canons h 0 [a, .int .i64 n] [.sl (some (0, 0)) P.length 0 false, .int .i64 n] [.cells (itP P) 19 .far none] := .cons _ _ _ _ _ _ _ (rowP_canon g 0) (.cons _ _ _ _ _ _ _ (.flat _ _ rfl) (.nil _))
  by_cases hb : n < 0 ∨ 64 < n ∨ chkP P ≠ 0 ∨ P = []
  · obtain ⟨h2, hr⟩ := runShl hb
    have e : shP P n = [] := by unfold shP; rw [if_pos hb]
    rw [e]
    exact ⟨_, _, ca, _, _, hr, [none], .nil _ _ _, ksOk1 _⟩
  · have hb' : ¬ n < 0 ∧ ¬ 64 < n ∧ chkP P = 0 ∧ P ≠ [] := by
      refine ⟨fun h => hb (.inl h), fun h => hb (.inr (.inl h)), ?_, fun h => hb (.inr (.inr (.inr h)))⟩
      exact Classical.byContradiction fun h => hb (.inr (.inr (.inl h)))
    obtain ⟨b0, b1, b2, b3⟩ := hb'
    have hp : 0 < P.length := by cases P with | nil => exact absurd rfl b3 | cons _ _ => simp
    obtain ⟨R, hr⟩ := runShm (P := P) (n := n) (by omega) (by omega) b2 hp
    have hl := shP_len (n := n) (by omega) (by omega) b2 b3
    refine ⟨_, _, ca, _, _, hr, [some 2], ?_, ksOk1 _⟩
    have hd := Den.row (h1 := hSh (itP P) R (intL (shP P n))) (n0 := 1) h.length 2 0 P.length 0 false (intL (shP P n)) 1 none (by decide) (by decide) rfl ⟨by simp [capOf], by simp [capOf]; omega⟩ (by intro h; omega) (by rw [List.drop_zero, List.take_of_length_le (by simp; omega)]; exact frees_ints _)
    rw [List.drop_zero, List.take_of_length_le (by simp; omega)] at hd
    rw [← hl] at hd ⊢
    exact hd
theorem sSh (L : List (Nat × AV × AHeap)) : SoundE Try.prog 15 (entF (eRel ShR L)) := relR_sound kSh L

end Go.Proofs.Ytlppbeoiphglcaa.L
