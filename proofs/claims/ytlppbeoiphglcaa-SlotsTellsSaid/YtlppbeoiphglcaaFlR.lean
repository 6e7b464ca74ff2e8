/- slots.Fill: the run, and its contract. -/
import Derived.Test.YtlppbeoiphglcaaFlP
set_option autoImplicit false
set_option maxRecDepth 100000
set_option linter.unusedVariables false
set_option linter.unusedSimpArgs false
namespace Go.Proofs.Ytlppbeoiphglcaa.L
open Go Go.Abs

theorem tFlOk (k : Nat) (L : List Int) : ∀ f E, (tFl k L).find f = some E → SoundE Try.prog f E := find_cons sIm (find_cons sCkF (find_cons (sSh _) (find_nil _)))
theorem lsFlOk : LoopsOk Try.prog (lsT lsFl) FL2 := by
  unfold lsFl
  rw [mixT_ls]
  have hl : loopsOf FL2 = [FL3] := by kernel_rfl
  intro b hb s hs
  rw [hl] at hb
  simp only [List.mem_cons, List.not_mem_nil, or_false] at hb
  unfold mixLS at hs
  subst hb
  rw [show firstReg FL3 = 23 by kernel_rfl] at hs
  simp only [lsOf, if_true] at hs
  cases hs
  exact fixS_sound (tFlOk _ _) (noLoops (by kernel_rfl))
abbrev natL (l : List Nat) : List AV := l.map fun x : Nat => AV.int .i64 (x : Int)
theorem natL_frees (l : List Nat) : AV.frees (natL l) = true := by
  induction l with
  | nil => rfl
  | cons x l ih => exact ih
theorem natL_at {l : List Nat} {i : Nat} (hi : i < l.length) : (natL l)[0 + (i : Int).toNat * 1]? = some (.int .i64 l[i]) := by
  rw [show 0 + (i : Int).toNat * 1 = i from by omega]; simp [hi]
theorem _root_.Go.Abs.Gc.le {n m : Nat} (h : m ≤ n) {vs vs' : List AV} {a b : AHeap} (g : Gc n vs a vs' b) : Gc m vs a vs' b := g.imp id fun ⟨s, x, y⟩ => ⟨s, fun j hj => x j (by omega), y⟩

variable (P : PL) (D : List DipC)
noncomputable def stFl1 (n : Nat) (s : F1) (i : Nat) : List AV × AHeap := (vFl1 P.length P.length n s.2.2.length i, hFl (dipsC D) (itP P) D.length (intL s.1) (dipsC s.2.1) (natL s.2.2))
noncomputable def stFl2 (n : Nat) (Q : List Nat) (s : F2) (j : Nat) : List AV × AHeap := (vFl2 P.length P.length n Q.length s.2.2 j, hFl (dipsC D) (itP P) D.length (intL s.1) (dipsC s.2.1) (natL Q))
variable {P : PL} {D : List DipC}
theorem gcFl {n i : Nat} {L : List Int} {X : List DipC} {Q : List Nat} {A B : ABlk} :
    Gc 5 [.sl (some (1, 0)) P.length 0 false, .ptr (some (2, 0)), .sl (some (3, 0)) P.length 0 false, .sl (some (4, 0)) n 0 false, .sl (some (8, 0)) (Q.length + 1) 0 false, .int .i64 n, .int .i64 ((i + 1 : Nat) : Int)]
      [.cells (dipsC D) 18 .far none, .cells (itP P) 19 .far none, .cells [.sl (some (0, 0)) D.length 0 false] 1 .own none, .cells (intL L) 1 .own none, .cells (dipsC X) 18 .own none, .cells (natL Q) 1 .ro none, A, B, .cells (natL (Q ++ [i])) 1 .own (some 5)]
      (stFl1 P D n (L, X, Q ++ [i]) (i + 1)).1 (stFl1 P D n (L, X, Q ++ [i]) (i + 1)).2 := by
  unfold stFl1 vFl1 hFl
  simp only [List.length_append, List.length_singleton]
  exact Gc.by [0, 1, 2, 3, 4, 8] rfl (by decide) (.cons _ _ _ _ (.sl _ _ _ _ _ _ rfl) (.cons _ _ _ _ (.ptr _ _ _ rfl) (.cons _ _ _ _ (.sl _ _ _ _ _ _ rfl) (.cons _ _ _ _ (.sl _ _ _ _ _ _ rfl) (.cons _ _ _ _ (.sl _ _ _ _ _ _ rfl) (.free _ rfl))))))
    (.cons _ _ _ _ _ rfl (.row (dipsC_frees _) (by simp)) (.cons _ _ _ _ _ rfl (.row (itP_frees _) (by simp)) (.cons _ _ _ _ _ rfl (.cells _ _ _ _ _ _ (.cons _ _ _ _ (.sl _ _ _ _ _ _ rfl) .nil) (by simp)) (.cons _ _ _ _ _ rfl (.row (frees_ints _) (by simp)) (.cons _ _ _ _ _ rfl (.row (dipsC_frees _) (by simp)) (.cons _ _ _ _ _ rfl (.row (natL_frees _) (by intro p j h; injection h with h; subst h; exact nofun)) .nil))))))
theorem stepFl1 {n i : Nat} {s : F1} (I : I1 P D n i s) (hn : n ≤ 64) (hP : P.length ≤ 32) (hD : D = [] ∨ D.length = n) (hi : i < n) :
    ∃ pr vs1 h1, qround Try.prog tFlL 100 4 pr noT FL1 mFl1 (stFl1 P D n s i).1 (stFl1 P D n s i).2 = some (.norm, vs1, h1) ∧ Gc 5 vs1 h1 (stFl1 P D n (step1 P D i s) (i + 1)).1 (stFl1 P D n (step1 P D i s) (i + 1)).2 := by
  obtain ⟨L, X, Q⟩ := s
  have hQ := I.qi
  have hL := I.len
  have hX := I.xl
  simp only at hQ hL hX
  have e1 : intV (some (AV.int .i64 (i : Int))) = (i : Int) := rfl
  have e5 := wrap1 (i := i) (by omega)
  have eQ : List.take (Q.length * 1) (natL Q) ++ [AV.int .i64 (i : Int)] = natL (Q ++ [i]) := by
    rw [Nat.mul_one, List.take_of_length_le (by simp)]; simp
  by_cases hd : D = []
  · subst hd
    have es : step1 P [] i (L, X, Q) = (L, X, Q ++ [i]) := by unfold step1; rw [if_neg (by simp)]
    have row : qround Try.prog tFlL 100 4 [(49, .bool true), (53, .bool false), (65, .bool true)] noT FL1 mFl1 (stFl1 P [] n (L, X, Q) i).1 (stFl1 P [] n (L, X, Q) i).2 = some (.norm, [.sl (some (1, 0)) P.length 0 false, .ptr (some (2, 0)), .sl (some (3, 0)) P.length 0 false, .sl (some (4, 0)) n 0 false, .sl (some (8, 0)) (Q.length + 1) 0 false, .int .i64 n, .int .i64 ((i + 1 : Nat) : Int)],
        [.cells (dipsC []) 18 .far none, .cells (itP P) 19 .far none, .cells [.sl (some (0, 0)) ([] : List DipC).length 0 false] 1 .own none, .cells (intL L) 1 .own none, .cells (dipsC X) 18 .own none, .cells (natL Q) 1 .ro none, .cells [.int .i64 i] 1 .own none, .cells [.int .i64 i] 1 .own none, .cells (natL (Q ++ [i])) 1 .own (some 5)]) := by
      refine (nfFl1z ..).trans ?_
      unfold hFl1z0
      rw [e1, eQ, e5]
      refine (if_pos (by simp; omega)).trans ?_
      refine (if_pos (by simp)).trans ?_
      refine (if_pos ⟨by show _ * 8 ≤ _; simp only []; omega, rfl, by simp only []; omega⟩).trans ?_
      refine (if_pos (by simp)).trans ?_
      refine (if_pos ⟨rfl, by simp, .inl (by decide), rfl, rfl⟩).trans ?_
      rfl
    refine ⟨_, _, _, row, ?_⟩
    rw [es]
    exact gcFl
  have hDl : D.length = n := hD.resolve_left hd
  have hiD : i < D.length := by omega
  have hP1 : rowP (hFl1o0 (dipsC D) (itP P) D.length (intL L) (dipsC X) (natL Q) P.length P.length n Q.length i) (AV.sl (some (1, 0)) P.length 0 false) P := rowP_blk rfl rfl
  have hD1 : rowDs (hFl1o0 (dipsC D) (itP P) D.length (intL L) (dipsC X) (natL Q) P.length P.length n Q.length i) (AV.sl (some (0, 0)) D.length 0 false) D := rowDs_blk rfl rfl
  obtain ⟨U1, U2⟩ := imU (j := i) (b := 2) (c := 6) hP1 rfl hD1 rfl hiD (by omega)
  have eD : D.getD i zD = D[i] := by rw [List.getD_eq_getElem?_getD, List.getElem?_eq_getElem hiD, Option.getD_some]
  by_cases hk : atP P D[i] < P.length ∧ L.getD (atP P D[i]) 0 ≠ 0
  · obtain ⟨hk, hz⟩ := hk
    have hkL : atP P D[i] < L.length := by omega
    have eL : L.getD (atP P D[i]) 0 = L[atP P D[i]] := by rw [List.getD_eq_getElem?_getD, List.getElem?_eq_getElem hkL, Option.getD_some]
    rw [eL] at hz
    have es : step1 P D i (L, X, Q) = (L.set (atP P D[i]) (L[atP P D[i]] - 1), X.set i D[i], Q) := by
      unfold step1; rw [eD, if_pos ⟨hd, hk, by simp only [eL]; exact hz⟩]; simp only [eL]
    have ex : ixP P D[i] = (atP P D[i] : Nat) := by unfold ixP; rw [if_pos hk]
    have hnn := I.nn _ (List.getElem_mem hkL)
    have hle : L[atP P D[i]] ≤ 1000000 := by
      have h1 := mem_le_sum I.nn _ (List.getElem_mem hkL)
      have h2 := I.sm
      simp only at h1 h2; omega
    have a1 : intV (some (.int .i64 L[atP P D[i]])) = L[atP P D[i]] := rfl
    have a2 : IntKind.i64.wrap (L[atP P D[i]] - 1) = L[atP P D[i]] - 1 := wrapI64 (by omega)
    have a3 : 0 + (i : Int).toNat * 18 = i * 18 := by omega
    have a4 := dipsC_at hiD
    have a5 : putCells (dipsC X) (i * 18) D[i].cells = dipsC (X.set i D[i]) := dipsC_set (by omega) _
    have hhh : hFl1k0 (dipsC D) (itP P) D.length (intL L) (dipsC X) (natL Q) P.length P.length n Q.length i = hFl1o0 (dipsC D) (itP P) D.length (intL L) (dipsC X) (natL Q) P.length P.length n Q.length i := rfl
    have row : qround Try.prog tFlL 100 4 [(49, .bool true), (53, .bool true), (65, .bool false)] noT FL1 mFl1 (stFl1 P D n (L, X, Q) i).1 (stFl1 P D n (L, X, Q) i).2 = some (.norm, vFl1 P.length P.length n Q.length ((i + 1 : Nat) : Int), hFl (dipsC D) (itP P) D.length (intL (L.set (atP P D[i]) (L[atP P D[i]] - 1))) (dipsC (X.set i D[i])) (natL Q) ++ [.cells [.int .i64 i] 1 .own none]) := by
      refine (nfFl1k ..).trans ?_
      unfold hFl1k2
      have hlD : (dipsC D).length = n * 18 := by rw [dipsC_length, hDl]
      have hlX : (dipsC X).length = n * 18 := by rw [dipsC_length, hX]
      simp only [hhh, U2, ex, e1, intL_at hkL, a1, a2, a3, a4, intL_put hkL, a5, e5]
      refine (if_pos (by simp; omega)).trans ?_
      refine (if_pos (by simp; omega)).trans ?_
      refine (if_pos (cdec_true.2 (by rw [U2, ex] at U1; exact U1))).trans ?_
      refine (if_neg (by first | (simp; done) | (simp; omega))).trans ?_
      refine (if_pos (by omega)).trans ?_
      refine (if_pos rfl).trans ?_
      refine (if_pos (by simpa using hz)).trans ?_
      refine (if_pos (by omega)).trans ?_
      refine (if_pos (by omega)).trans ?_
      refine (if_pos (by omega)).trans ?_
      refine (if_pos (by simp)).trans ?_
      refine (if_pos ⟨by rw [DipC.cells_length]; omega, cells_isCell _⟩).trans ?_
      refine (if_pos (by omega)).trans ?_
      refine (if_pos rfl).trans ?_
      refine (if_pos (by omega)).trans ?_
      refine (if_pos ⟨by simp; omega, rfl⟩).trans ?_
      rfl
    refine ⟨_, _, _, row, ?_⟩
    rw [es]
    refine Gc.le (n := 6) (by decide) (Gc.drop (h := hFl (dipsC D) (itP P) D.length (intL (L.set (atP P D[i]) (L[atP P D[i]] - 1))) (dipsC (X.set i D[i])) (natL Q)) (X := [_]) 6 rfl rfl (by
      intro b hb
      simp only [hFl, List.mem_cons, List.not_mem_nil, or_false] at hb
      rcases hb with rfl | rfl | rfl | rfl | rfl | rfl
      · exact okU_free (dipsC_frees _) (by simp)
      · exact okU_free (itP_frees _) (by simp)
      · exact ⟨rfl, by simp⟩
      · exact okU_free (frees_ints _) (by simp)
      · exact okU_free (dipsC_frees _) (by simp)
      · exact okU_free (natL_frees _) (by simp)))
  · have es : step1 P D i (L, X, Q) = (L, X, Q ++ [i]) := by
      unfold step1; rw [eD, if_neg (by intro h; exact hk h.2)]
    have row : qround Try.prog tFlL 100 4 [(49, .bool true), (53, .bool true), (65, .bool true)] noT FL1 mFl1 (stFl1 P D n (L, X, Q) i).1 (stFl1 P D n (L, X, Q) i).2 = some (.norm, [.sl (some (1, 0)) P.length 0 false, .ptr (some (2, 0)), .sl (some (3, 0)) P.length 0 false, .sl (some (4, 0)) n 0 false, .sl (some (8, 0)) (Q.length + 1) 0 false, .int .i64 n, .int .i64 ((i + 1 : Nat) : Int)],
        [.cells (dipsC D) 18 .far none, .cells (itP P) 19 .far none, .cells [.sl (some (0, 0)) D.length 0 false] 1 .own none, .cells (intL L) 1 .own none, .cells (dipsC X) 18 .own none, .cells (natL Q) 1 .ro none, .cells [.int .i64 i] 1 .own none, .cells [.int .i64 i] 1 .own none, .cells (natL (Q ++ [i])) 1 .own (some 5)]) := by
      refine (nfFl1o ..).trans ?_
      unfold hFl1o2
      simp only [U2, e1, eQ, e5]
      refine (if_pos (by simp; omega)).trans ?_
      refine (if_pos (by simp; omega)).trans ?_
      refine (if_pos (cdec_true.2 (by rw [U2] at U1; exact U1))).trans ?_
      by_cases hk1 : atP P D[i] < P.length
      · have ex : ixP P D[i] = (atP P D[i] : Nat) := by unfold ixP; rw [if_pos hk1]
        have hkL : atP P D[i] < L.length := by omega
        have eL : L.getD (atP P D[i]) 0 = L[atP P D[i]] := by rw [List.getD_eq_getElem?_getD, List.getElem?_eq_getElem hkL, Option.getD_some]
        have hz : L[atP P D[i]] = 0 := Classical.byContradiction fun h => hk ⟨hk1, by rw [eL]; exact h⟩
        simp only [ex, intL_at hkL, hz]
        refine (if_neg (by first | (simp; done) | (simp; omega))).trans ?_
        refine (if_pos (by omega)).trans ?_
        refine (if_pos rfl).trans ?_
        refine (if_pos rfl).trans ?_
        refine (if_pos (by simp; omega)).trans ?_
        refine (if_pos (by simp)).trans ?_
        refine (if_pos (by simp [AV.isCell])).trans ?_
        rfl
      · have ex : ixP P D[i] = -1 := by unfold ixP; rw [if_neg hk1]
        simp only [ex]
        refine (if_pos (by decide)).trans ?_
        refine (if_pos (by simp; omega)).trans ?_
        refine (if_pos (by simp)).trans ?_
        refine (if_pos (by simp [AV.isCell])).trans ?_
        rfl
    refine ⟨_, _, _, row, ?_⟩
    rw [es]
    exact gcFl
theorem saysFl3 {n x : Nat} {L : List Int} {X : List DipC} {Q : List Nat} {a : Nat} {j : Int} (hP : P.length ≤ 32) (hL : L.length = P.length) (hn : nzN L a < L.length) (hz : ∀ i (h : i < L.length), i < nzN L a → L[i] = 0) (hne : L[nzN L a] ≠ 0) (ha : a ≤ nzN L a) :
    LSays bFl3 6 (vFl3 P.length P.length n Q.length a x j) (hFl (dipsC D) (itP P) D.length (intL L) (dipsC X) (natL Q)) (.exit 4) (vFl3 P.length P.length n Q.length (nzN L a : Nat) x j) (hFl (dipsC D) (itP P) D.length (intL L) (dipsC X) (natL Q)) := by
  refine says_up (fun i => vFl3 P.length P.length n Q.length ((a + i : Nat) : Int) x j) (N := nzN L a - a) (by simp) rfl (by show vFl3 _ _ _ _ ((a + (nzN L a - a) : Nat) : Int) _ _ = _; rw [show a + (nzN L a - a) = nzN L a by omega]) (fun i hi => ⟨[(94, .bool true)], ?_⟩) ⟨[(94, .bool false)], ?_⟩
  · have hk : a + i < L.length := by omega
    refine (nfFl3a ..).trans ?_
    simp only [intL_at hk, wrap1 (i := a + i) (by omega), hz (a + i) hk (by omega)]
    refine (if_pos (by omega)).trans ?_
    refine (if_pos rfl).trans ?_
    refine (if_pos rfl).trans ?_
    rfl
  · rw [show a + (nzN L a - a) = nzN L a by omega]
    refine (nfFl3s ..).trans ?_
    simp only [intL_at hn]
    refine (if_pos (by omega)).trans ?_
    refine (if_pos rfl).trans ?_
    refine (if_pos (by simpa [intV] using hne)).trans ?_
    rfl
theorem stepFl2 {n j : Nat} {Q : List Nat} {s : F2} (I : I2 P n Q.length j s) (hn : n ≤ 64) (hP : P.length ≤ 32) (hQn : ∀ x ∈ Q, x < n) (hq : Q.length ≤ n) (hj : j < Q.length) :
    qround Try.prog tFlL 100 4 [(87, .bool true)] lsFl FL2 mFl2 (stFl2 P D n Q s j).1 (stFl2 P D n Q s j).2 = some (.norm, (stFl2 P D n Q (step2 P s Q[j]) (j + 1)).1, (stFl2 P D n Q (step2 P s Q[j]) (j + 1)).2) := by
  obtain ⟨L, X, a⟩ := s
  have hs : 0 < sumL L := by have := I.sm; simp only at this; omega
  obtain ⟨h1, h2, h3, h4⟩ := nz_spec I.nn I.az hs
  have hL := I.len
  have hX := I.xl
  simp only at h1 h2 h3 h4 hL hX
  have hk : nzN L a < P.length := by omega
  have eP : (P.getD (nzN L a) (zD, 0)).1 = P[nzN L a].1 := by rw [List.getD_eq_getElem?_getD, List.getElem?_eq_getElem hk, Option.getD_some]
  have eL : L.getD (nzN L a) 0 = L[nzN L a] := by rw [List.getD_eq_getElem?_getD, List.getElem?_eq_getElem h1, Option.getD_some]
  have es : step2 P (L, X, a) Q[j] = (L.set (nzN L a) (L[nzN L a] - 1), X.set Q[j] P[nzN L a].1, nzN L a) := by unfold step2; simp only [eP, eL]
  rw [es]
  have hr0 : rowOf (hFl2a0 (dipsC D) (itP P) D.length (intL L) (dipsC X) (natL Q) P.length P.length n Q.length a j) (AV.sl (some (3, 0)) P.length 0 false) = intL L := (rowL_blk (l := L) (h := hFl2a0 (dipsC D) (itP P) D.length (intL L) (dipsC X) (natL Q) P.length P.length n Q.length a j) (k := 3) (n := P.length) (r := 0) (e := false) rfl hL.symm).2
  have e1 : opq (nzI L (a : Int)) = (nzN L a : Nat) := by rw [opq_eq]; exact nzI_N L a
  have e2 : intV (some (.int .i64 (Q[j] : Int))) = (Q[j] : Int) := rfl
  have e3 : intV (some (.int .i64 L[nzN L a])) = L[nzN L a] := rfl
  have hnn := I.nn _ (List.getElem_mem h1)
  have hle := mem_le_sum I.nn _ (List.getElem_mem h1)
  have hsm := I.sm
  simp only at hle hsm
  have e4 : IntKind.i64.wrap (L[nzN L a] - 1) = L[nzN L a] - 1 := wrapI64 (by omega)
  have e5 := wrap1 (i := j) (by omega)
  have e6 : 0 + ((nzN L a : Nat) : Int).toNat * 19 + 0 = nzN L a * 19 := by omega
  have e7 : List.take 18 (List.drop (nzN L a * 19) (itP P)) = P[nzN L a].1.cells := itP_18 hk
  have hQj := hQn _ (List.getElem_mem hj)
  have e8 : 0 + ((Q[j] : Nat) : Int).toNat * 18 = Q[j] * 18 := by omega
  have e9 : putCells (dipsC X) (Q[j] * 18) P[nzN L a].1.cells = dipsC (X.set Q[j] P[nzN L a].1) := dipsC_set (by omega) _
  have hlP := itP_length P
  have hlX : (dipsC X).length = n * 18 := by rw [dipsC_length, hX]
  refine (nfFl2a ..).trans ?_
  unfold hFl2a1
  simp only [hr0, ilOf_eq, e1, natL_at hj, e2, intL_at h1, e3, e4, e5, e6, e7, e8, e9, intL_put h1]
  refine (if_pos (by simp; omega)).trans ?_
  refine (if_pos (by omega)).trans ?_
  refine (if_pos rfl).trans ?_
  refine (if_pos (cdec_true.2 (saysFl3 hP hL h1 h4 h3 h2))).trans ?_
  repeat (first | (refine (if_pos ?_).trans ?_; · first | rfl | omega | (simp; omega) | (simp; done) | exact ⟨by rw [DipC.cells_length]; omega, cells_isCell _⟩ | exact ⟨by simp; omega, rfl⟩))
  rfl
theorem runFlm {n : Nat} (h1 : 1 ≤ n) (hn : n ≤ 64) (hc : chkP P = 0) (hp : 0 < P.length) (hD : D = [] ∨ D.length = n) : ∃ L2 Q, Runs Try.prog 10 [.sl (some (0, 0)) D.length 0 false, .sl (some (1, 0)) P.length 0 false, .int .i64 n] [.cells (dipsC D) 18 .far none, .cells (itP P) 19 .far none] (.tup [.sl (some (4, 0)) n 0 false, .int .i64 0]) (hFl (dipsC D) (itP P) D.length L2 (dipsC (flX P D (shP P n) n)) Q) := by
  have hl := chk_len hc
  have lp : loopsOf (bodyOf Try.prog 10) = [FL1, FL2] := by kernel_rfl
  have hpe : P ≠ [] := by rintro rfl; simp at hp
  have hSl : (shP P n).length = P.length := shP_len (by omega) (by omega) hc hpe
  have hSn := shP_nonneg (P := P) (n := n) (by omega) (by omega) hc hp
  have hSs := shP_sum (P := P) (n := n) (by omega) (by omega) hc hp
  generalize hS : shP P n = S at *
  have J1 := fl1_inv (D := D) hSl hSn hSs
  have J2 := fl2_inv (D := D) hSl hSn hSs
  have Jn := J1 n (Nat.le_refl _)
  generalize hQ : (fl1 P D S n n).2.2 = Q at *
  have hQl : Q.length ≤ n := by rw [← hQ]; exact Jn.qi
  have hQn : ∀ x ∈ Q, x < n := by rw [← hQ]; exact Jn.ql
  have k1 : True → ∃ vs2 h2, Pre 5 (vFl1z P.length P.length n 0) [.cells (dipsC D) 18 .far none, .cells (itP P) 19 .far none, .cells [.sl (some (0, 0)) D.length 0 false] 1 .own none, .cells (intL S) 1 .own none, .cells (zrep n dipZ) 18 .own none] vs2 h2 ∧ ∃ k, GReach (roundG Try.prog (deepT Try.prog tFlL 100 4) (lsT noT) FL1 mFl1) 5 k vs2 h2 (.exit 0) (vFl1 P.length P.length n Q.length n) (hFl (dipsC D) (itP P) D.length (intL (fl1 P D S n n).1) (dipsC (fl1 P D S n n).2.1) (natL Q)) := by
    intro _
    refine ⟨(stFl1 P D n (fl1 P D S n 0) 0).1, (stFl1 P D n (fl1 P D S n 0) 0).2, ?_, loop_T (fun i => stFl1 P D n (fl1 P D S n i) i) (N := n) (by simp) (fun i hi => stepFl1 (J1 i (by omega)) hn hl hD hi) ⟨[(49, .bool false)], _, _, (nfFl1s ..).trans (if_pos (by simp)), ?_⟩⟩
    · rw [zrep_dips]
      exact Pre.nil1 1 (.same _ _ _ (.same _ _ _ (.same _ _ _ (.same _ _ _ (.void _ _ _ (NRs.refl _)))))) rfl
    · rw [hQ]; exact Gc.refl
  have k2 : True → ∃ k, GReach (roundG Try.prog (deepT Try.prog tFlL 100 4) (lsT lsFl) FL2 mFl2) 6 k (vFl2 P.length P.length n Q.length 0 0) (hFl (dipsC D) (itP P) D.length (intL (fl1 P D S n n).1) (dipsC (fl1 P D S n n).2.1) (natL Q)) (.exit 2) (vFl2 P.length P.length n Q.length (fl2 P D S n Q.length).2.2 Q.length) (hFl (dipsC D) (itP P) D.length (intL (fl2 P D S n Q.length).1) (dipsC (fl2 P D S n Q.length).2.1) (natL Q)) := by
    intro _
    refine loop_T (fun j => stFl2 P D n Q (fl2 P D S n j) j) (N := Q.length) (by simp) (fun j hj => ⟨[(87, .bool true)], _, _, stepFl2 (J2 j (by omega)) hn hl hQn hQl hj, ?_⟩) ⟨[(87, .bool false)], _, _, (nfFl2s ..).trans (if_pos (by simp)), Gc.refl⟩
    have e := fl2_succ (P := P) (D := D) (S := S) (n := n) (j := j) (by rw [hQ]; exact hj)
    simp only [hQ] at e
    rw [e]; exact Gc.refl
  have hx : flX P D S n = (fl2 P D S n Q.length).2.1 := by unfold flX; rw [hQ]
  rw [hx]
  refine ⟨intL (fl2 P D S n Q.length).1, natL Q, ?_⟩
  refine Runs.ofT (tFlOk P.length S) (F := 100) (n := 4) (pr := [(37, .bool false), (40, .bool false)]) (both (k := 9) (k2 := 21) lp rfl rfl (by decide) (fixP_T (tFlOk _ _) (F := 100) (n := 4) (LS := noT) (noLoops (by kernel_rfl)) k1) (fixC_T (tFlOk _ _) (F := 100) (n := 4) (LS := lsFl) lsFlOk k2)) ?_
  obtain ⟨a, b⟩ := ckF_ok (rowP_blk (P := P) (h := [ABlk.cells (dipsC D) 18 Md.far none, .cells (itP P) 19 .far none, .cells [AV.sl (some (0, 0)) D.length 0 false] 1 .own none]) (k := 1) (n := P.length) (r := 0) (e := false) rfl rfl)
  have gS : ShR [AV.sl (some (1, 0)) P.length 0 false, AV.int .i64 (n : Int)] [ABlk.cells (dipsC D) 18 Md.far none, .cells (itP P) 19 .far none, .cells [AV.sl (some (0, 0)) D.length 0 false] 1 .own none] (AV.sl (some (3, 0)) P.length 0 false) [.cells (intL S) 1 .own none] := .mk P n _ _ (rowP_blk rfl rfl) S _ hS hSl.symm
  refine (nfFlm ..).trans ?_
  refine (if_neg (by simp; omega)).trans ?_
  refine (if_neg (by simp; omega)).trans ?_
  refine (if_pos (cdec_true.2 a)).trans ?_
  refine (if_neg (by unfold hFlm0; rw [b, hc]; decide)).trans ?_
  have hz : ((P.length : Int) == 0) = false := by simp; exact hpe
  have tail : ∀ {α : Type} (A B C : Prop) [Decidable A] [Decidable B] [Decidable C], True := fun _ _ _ => trivial
  rcases hD with hD | hD
  · subst hD
    refine (if_neg (by simp)).trans ?_
    refine (if_pos hz).trans ?_
    refine (if_pos (cdec_true.2 gS)).trans ?_
    refine (if_pos ⟨rfl, by decide, by omega, by omega, by omega, by omega⟩).trans ?_
    refine (if_pos (cdec_true.2 ⟨trivial, rfl, rfl⟩)).trans ?_
    refine (if_pos (cdec_true.2 ⟨trivial, rfl, rfl⟩)).trans ?_
    rfl
  · refine (if_pos (by simp; omega)).trans ?_
    refine (if_pos (by rw [hD]; simp)).trans ?_
    refine (if_pos hz).trans ?_
    refine (if_pos (cdec_true.2 gS)).trans ?_
    refine (if_pos ⟨rfl, by decide, by omega, by omega, by omega, by omega⟩).trans ?_
    refine (if_pos (cdec_true.2 ⟨trivial, rfl, rfl⟩)).trans ?_
    refine (if_pos (cdec_true.2 ⟨trivial, rfl, rfl⟩)).trans ?_
    rfl
theorem badF_not {n : Int} (h : ¬ badF P D n) : 1 ≤ n ∧ n ≤ 64 ∧ chkP P = 0 ∧ (D = [] ∨ (D.length : Int) = n) := by
  unfold badF at h
  refine ⟨Int.not_lt.1 fun x => h (.inl x), Int.not_lt.1 fun x => h (.inr (.inl x)), Classical.byContradiction fun x => h (.inr (.inr (.inl x))), ?_⟩
  by_cases hd : D = []
  · exact .inl hd
  · exact .inr (Classical.byContradiction fun x => h (.inr (.inr (.inr ⟨hd, x⟩))))
theorem runFle {n : Int} (h : badF P D n) : ∃ h', Runs Try.prog 10 [.sl (some (0, 0)) D.length 0 false, .sl (some (1, 0)) P.length 0 false, .int .i64 n] [.cells (dipsC D) 18 .far none, .cells (itP P) 19 .far none] (.tup [.sl none 0 0 true, .int .i64 1]) h' := by
  refine Runs.valT0 (tFlOk 0 []) (F := 100) (n := 4) (pr := [(37, .bool true)]) ?_
  refine (nfFle ..).trans ?_
  by_cases h0 : n < 1
  · exact if_pos (decide_eq_true h0)
  refine (if_neg (by simpa using h0)).trans ?_
  by_cases h1 : 64 < n
  · exact if_pos (decide_eq_true h1)
  refine (if_neg (by simpa using h1)).trans ?_
  obtain ⟨a, b⟩ := ckF_ok (rowP_blk (P := P) (h := hFle0 (dipsC D) (itP P) D.length P.length n) (k := 1) (n := P.length) (r := 0) (e := false) rfl rfl)
  refine (if_pos (cdec_true.2 a)).trans ?_
  rw [b]
  by_cases h2 : chkP P ≠ 0
  · exact if_pos (by simpa using h2)
  refine (if_neg (by simpa using h2)).trans ?_
  have h3 : D ≠ [] ∧ (D.length : Int) ≠ n := by
    rcases h with h | h | h | h
    · exact absurd h h0
    · exact absurd h h1
    · exact absurd h h2
    · exact h
  have h4 : 0 < D.length := by cases D with | nil => exact absurd rfl h3.1 | cons _ _ => simp
  refine (if_pos (by simp; omega)).trans ?_
  exact if_pos (by simpa using h3.2)
theorem runFln {n : Int} (h : ¬ badF P D n) (hp : P = []) : ∃ h', Runs Try.prog 10 [.sl (some (0, 0)) D.length 0 false, .sl (some (1, 0)) P.length 0 false, .int .i64 n] [.cells (dipsC D) 18 .far none, .cells (itP P) 19 .far none] (.tup [.sl none 0 0 true, .int .i64 0]) h' := by
  refine Runs.valT0 (tFlOk 0 []) (F := 100) (n := 4) (pr := [(37, .bool false), (40, .bool true)]) ?_
  refine (nfFln ..).trans ?_
  obtain ⟨b0, b1, b2, b3⟩ := badF_not h
  obtain ⟨a, b⟩ := ckF_ok (rowP_blk (P := P) (h := hFln0 (dipsC D) (itP P) D.length P.length n) (k := 1) (n := P.length) (r := 0) (e := false) rfl rfl)
  refine (if_neg (by simp; omega)).trans ?_
  refine (if_neg (by simp; omega)).trans ?_
  refine (if_pos (cdec_true.2 a)).trans ?_
  rw [b, b2]
  refine (if_neg (by decide)).trans ?_
  subst hp
  rcases b3 with hD | hD
  · subst hD
    refine (if_neg (by simp)).trans ?_
    exact if_pos rfl
  · refine (if_pos (by simp; omega)).trans ?_
    refine (if_pos (by rw [hD]; simp)).trans ?_
    exact if_pos rfl

inductive FlR : List AV → AHeap → AV → AHeap → Prop
  | mk (P : PL) (D : List DipC) (n : Int) (h : AHeap) (a b : AV) (ga : rowDs h a D) (gb : rowP h b P) (X : List DipC) (k : Nat) (e : Int) (hX : fillP P D n = X) (hk : k = X.length) (he : fillE P D n = e) :
      FlR [a, b, .int .i64 n] h (.tup [.sl (some (h.length, 0)) k 0 false, .int .i64 e]) [.cells (dipsC X) 18 .own none]
theorem kFl : ∀ args h v new, FlR args h v new → ∃ args1 h1, Canons h 0 args args1 h1 ∧ ∃ v1 h1', Runs Try.prog 10 args1 h1 v1 h1' ∧ ∃ ks, Den h1' h1.length h.length ks v1 v new ∧ KsOk ks := by
  intro args h v new hR
  cases hR with
  | mk P D n _ a b ga gb X k e hX hk he =>
  subst hX hk he
  have ca : Canons h 0 [a, b, .int .i64 n] [.sl (some (0, 0)) D.length 0 false, .sl (some (1, 0)) P.length 0 false, .int .i64 n] [.cells (dipsC D) 18 .far none, .cells (itP P) 19 .far none] := .cons _ _ _ _ _ _ _ (rowDs_canon ga 0) (.cons _ _ _ _ _ _ _ (rowP_canon gb 1) (.cons _ _ _ _ _ _ _ (.flat _ _ rfl) (.nil _)))
  have nilD : ∀ (h1' : AHeap) (e : Int), Den h1' 2 h.length ([none] ++ []) (.tup [.sl none 0 0 true, .int .i64 e]) (.tup [.sl (some (h.length, 0)) 0 0 false, .int .i64 e]) [.cells [] 18 .own none] := fun h1' e => .tup _ _ _ _ _ (.cons _ _ _ _ _ _ _ _ _ (.nil _ _ 18) (.cons _ [] [] _ _ _ _ _ _ (.flat _ _ rfl) (.nil _)))
  by_cases hb : badF P D n
  · obtain ⟨h2, hr⟩ := runFle hb
    have e1 : fillP P D n = [] := by unfold fillP; rw [if_pos (.inl hb)]
    have e2 : fillE P D n = 1 := by unfold fillE; rw [if_pos hb]
    rw [e1, e2]
    exact ⟨_, _, ca, _, _, hr, _, nilD _ _, ksOk1 _⟩
  · have e2 : fillE P D n = 0 := by unfold fillE; rw [if_neg hb]
    obtain ⟨b0, b1, b2, b3⟩ := badF_not hb
    by_cases hp : P = []
    · obtain ⟨h2, hr⟩ := runFln hb hp
      have e1 : fillP P D n = [] := by unfold fillP; rw [if_pos (.inr hp)]
      rw [e1, e2]
      exact ⟨_, _, ca, _, _, hr, _, nilD _ _, ksOk1 _⟩
    · have e1 : fillP P D n = flX P D (shP P n) n.toNat := by unfold fillP; rw [if_neg (by rintro (h | h); exact hb h; exact hp h)]
      have hp' : 0 < P.length := by cases P with | nil => exact absurd rfl hp | cons _ _ => simp
      have hn : n = (n.toNat : Int) := by omega
      rw [e1, e2]
      have hSl : (shP P n).length = P.length := shP_len (by omega) (by omega) b2 hp
      have hSn := shP_nonneg (P := P) (n := n) (by omega) (by omega) b2 hp'
      have hSs := shP_sum (P := P) (n := n) (by omega) (by omega) b2 hp'
      have hxl : (flX P D (shP P n) n.toNat).length = n.toNat := (fl2_inv hSl hSn (by omega) _ (Nat.le_refl _)).xl
      obtain ⟨L2, Q, hr⟩ := runFlm (P := P) (D := D) (n := n.toNat) (by omega) (by omega) b2 hp' (by rcases b3 with h | h; exact .inl h; exact .inr (by omega))
      rw [← hn] at hr
      refine ⟨_, _, ca, _, _, hr, [some 4] ++ [], ?_, ksOk1 _⟩
      have hd := Den.row (h1 := hFl (dipsC D) (itP P) D.length L2 (dipsC (flX P D (shP P n) n.toNat)) Q) (n0 := 2) h.length 4 0 n.toNat 0 false (dipsC (flX P D (shP P n) n.toNat)) 18 none (by decide) (by decide) rfl ⟨by simp [capOf], by simp [capOf]; omega⟩ (by intro h; omega) (by rw [List.drop_zero, List.take_of_length_le (by simp; omega)]; exact dipsC_frees _)
      rw [List.drop_zero, List.take_of_length_le (by simp; omega)] at hd
      rw [hxl]
      exact .tup _ _ _ _ _ (.cons _ _ _ _ _ _ _ _ _ hd (.cons _ [] [] _ _ _ _ _ _ (.flat _ _ rfl) (.nil _)))
theorem sFl (L : List (Nat × AV × AHeap)) : SoundE Try.prog 10 (entF (eRel FlR L)) := relR_sound kFl L

end Go.Proofs.Ytlppbeoiphglcaa.L
