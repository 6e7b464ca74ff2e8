/- slices.IndexFunc over members: its contract. -/
import Derived.Test.YtlppbeoiphglcaaImN
set_option autoImplicit false
set_option maxRecDepth 100000
set_option linter.unusedVariables false
set_option linter.unusedSimpArgs false
namespace Go.Proofs.Ytlppbeoiphglcaa.L
open Go Go.Abs

noncomputable def atP (P : PL) (k : DipC) : Nat := P.findIdx fun p => decide (p.1 = k)
noncomputable def ixP (P : PL) (k : DipC) : Int := if atP P k < P.length then atP P k else -1
theorem gcIm (P : PL) (D : List DipC) (n : Nat) (j r i : Int) (X : ABlk) : Gc 4 (vIm n r i) (hIm (itP P) (dipsC D) D.length j ++ [X]) (vIm n r i) (hIm (itP P) (dipsC D) D.length j) :=
  Gc.drop (h := hIm (itP P) (dipsC D) D.length j) (X := [X]) 4 rfl rfl (by
    intro b hb
    simp only [hIm, List.mem_cons, List.not_mem_nil, or_false] at hb
    rcases hb with rfl | rfl | rfl | rfl
    · exact okU_free (itP_frees _) (by simp)
    · exact ⟨rfl, by simp⟩
    · exact okU_free (dipsC_frees _) (by simp)
    · exact okU_free rfl (by simp))
theorem rowIma {P : PL} {D : List DipC} {i j : Nat} (hi : i < P.length) (hn : P.length ≤ 1000000) (hj : j < D.length) (hne : P[i].1 ≠ D[j]) :
    qround Try.prog [] 100 4 [(9, .bool true), (16, .bool false)] noT IML mIm (vIm P.length 0 i) (hIm (itP P) (dipsC D) D.length j) = some (.norm, vIm P.length 0 ((i + 1 : Nat) : Int), hIm (itP P) (dipsC D) D.length j ++ [.cells (illC P[i].1 P[i].2) 19 .own none]) := by
  have e5 := wrap1 (i := i) (by omega)
  have e6 : 0 + (i : Int).toNat * 19 = i * 19 := by omega
  have e7 : 0 + (intV (some (AV.int .i64 (j : Int)))).toNat * 18 = j * 18 := by show 0 + (j : Int).toNat * 18 = _; omega
  rw [nfIma]
  unfold hIma0
  rw [e6, itP_19 hi, e5, e7, dipsC_at hj, illC_take18]
  have hL := itP_length P
  have hDl : (dipsC D).length = D.length * 18 := dipsC_length D
  generalize itP P = C at *
  generalize dipsC D = O at *
  have hx : (illC P[i].1 P[i].2).length = 19 := by simp
  generalize P[i].2 = w at *
  generalize P[i].1 = x at *
  generalize D[j] = k at *
  refine (if_pos (by simp; omega)).trans ?_
  refine (if_pos (by omega)).trans ?_
  refine (if_pos (by omega)).trans ?_
  refine (if_pos (by omega)).trans ?_
  refine (if_pos (by show 0 ≤ (j : Int) ∧ (j : Int) < _; omega)).trans ?_
  refine (if_pos (by omega)).trans ?_
  obtain ⟨v, b, q, hb⟩ := x
  obtain ⟨v', b', q', hb'⟩ := k
  obtain ⟨a0, a1, a2, a3, a4, a5, a6, a7, a8, a9, a10, a11, a12, a13, a14, a15, rfl⟩ := sixteen hb
  obtain ⟨c0, c1, c2, c3, c4, c5, c6, c7, c8, c9, c10, c11, c12, c13, c14, c15, rfl⟩ := sixteen hb'
  iterate 40 (refine (if_pos (by first | rfl | decide | (simp [DipC.cells]; done))).trans ?_)
  refine (if_pos (Bool.eq_false_iff.2 fun hc => hne ?_)).trans ?_
  · simp [DipC.cells, boolV, intV] at hc
    exact DipC.ext' hc.1.1 (by simp [hc]) (by simp [hc])
  · rfl
theorem rowImb {P : PL} {D : List DipC} {i j : Nat} (hi : i < P.length) (hn : P.length ≤ 1000000) (hj : j < D.length) (hne : P[i].1 = D[j]) :
    qround Try.prog [] 100 4 [(9, .bool true), (16, .bool true)] noT IML mIm (vIm P.length 0 i) (hIm (itP P) (dipsC D) D.length j) = some (.ret, vIm P.length i i, hIm (itP P) (dipsC D) D.length j ++ [.cells (illC P[i].1 P[i].2) 19 .own none]) := by
  have e6 : 0 + (i : Int).toNat * 19 = i * 19 := by omega
  have e7 : 0 + (intV (some (AV.int .i64 (j : Int)))).toNat * 18 = j * 18 := by show 0 + (j : Int).toNat * 18 = _; omega
  rw [nfImb]
  unfold hImb0
  rw [e6, itP_19 hi, e7, dipsC_at hj, illC_take18, ← hne]
  have hL := itP_length P
  have hDl : (dipsC D).length = D.length * 18 := dipsC_length D
  generalize itP P = C at *
  generalize dipsC D = O at *
  have hx : (illC P[i].1 P[i].2).length = 19 := by simp
  generalize P[i].2 = w at *
  generalize P[i].1 = x at *
  refine (if_pos (by simp; omega)).trans ?_
  refine (if_pos (by omega)).trans ?_
  refine (if_pos (by omega)).trans ?_
  refine (if_pos (by omega)).trans ?_
  refine (if_pos (by show 0 ≤ (j : Int) ∧ (j : Int) < _; omega)).trans ?_
  refine (if_pos (by omega)).trans ?_
  obtain ⟨v, b, q, hb⟩ := x
  obtain ⟨a0, a1, a2, a3, a4, a5, a6, a7, a8, a9, a10, a11, a12, a13, a14, a15, rfl⟩ := sixteen hb
  iterate 40 (refine (if_pos (by first | rfl | decide | (simp [DipC.cells]; done))).trans ?_)
  refine (if_pos (by simp [DipC.cells, boolV, intV])).trans ?_
  rfl
theorem runIm {P : PL} {D : List DipC} {j : Nat} (hl : P.length ≤ 1000000) (hj : j < D.length) : ∃ h', Runs Try.prog 23 [.sl (some (0, 0)) P.length 0 false, fIm] (hIm (itP P) (dipsC D) D.length j) (.int .i64 (ixP P D[j])) h' := by
  have lp : loopsOf (bodyOf Try.prog 23) = [IML] := by kernel_rfl
  have step : ∀ i : Nat, i < P.length → i < atP P D[j] → ∃ vs1 h1, qround Try.prog [] 100 4 [(9, .bool true), (16, .bool false)] noT IML mIm (vIm P.length 0 i) (hIm (itP P) (dipsC D) D.length j) = some (.norm, vs1, h1) ∧ Gc 4 vs1 h1 (vIm P.length 0 ((i + 1 : Nat) : Int)) (hIm (itP P) (dipsC D) D.length j) := by
    intro i hi hk
    have hne : P[i].1 ≠ D[j] := by have := List.not_of_lt_findIdx (p := fun p : DipC × Int => decide (p.1 = D[j])) (xs := P) hk; simpa using this
    exact ⟨_, _, rowIma hi hl hj hne, gcIm _ _ _ _ _ _ _⟩
  by_cases hk : atP P D[j] < P.length
  · have key : True → ∃ n, GReach (roundG Try.prog (deepT Try.prog [] 100 4) (lsT noT) IML mIm) 4 n (vIm P.length 0 0) (hIm (itP P) (dipsC D) D.length j) .ret (vIm P.length (atP P D[j]) (atP P D[j])) (hIm (itP P) (dipsC D) D.length j) := by
      intro _
      have he : P[atP P D[j]].1 = D[j] := of_decide_eq_true (List.findIdx_getElem (p := fun p : DipC × Int => decide (p.1 = D[j])) (xs := P) (w := hk))
      exact loop_T (fun i => (vIm P.length 0 i, hIm (itP P) (dipsC D) D.length j)) (N := atP P D[j]) (by simp) (fun i hi => ⟨_, step i (by omega) hi⟩) ⟨_, _, _, rowImb hk hl hj he, gcIm _ _ _ _ _ _ _⟩
    unfold ixP; rw [if_pos hk]
    refine Runs.valT (find_nil _) (F := 100) (n := 4) (pr := []) (only (k := 2) lp (fixC_T (find_nil _) (F := 100) (n := 4) (LS := noT) (noLoops (by kernel_rfl)) key)) ?_
    refine (nfImr ..).trans ?_
    exact if_pos (cdec_true.2 ⟨trivial, rfl, rfl⟩)
  · have key : True → ∃ n, GReach (roundG Try.prog (deepT Try.prog [] 100 4) (lsT noT) IML mIm) 4 n (vIm P.length 0 0) (hIm (itP P) (dipsC D) D.length j) (.exit 0) (vIm P.length 0 P.length) (hIm (itP P) (dipsC D) D.length j) := by
      intro _
      exact loop_T (fun i => (vIm P.length 0 i, hIm (itP P) (dipsC D) D.length j)) (N := P.length) (by simp) (fun i hi => ⟨_, step i hi (by omega)⟩) ⟨_, _, _, (nfIms ..).trans (if_pos (by simp)), Gc.refl⟩
    unfold ixP; rw [if_neg hk]
    refine Runs.valT (find_nil _) (F := 100) (n := 4) (pr := []) (only (k := 2) lp (fixC_T (find_nil _) (F := 100) (n := 4) (LS := noT) (noLoops (by kernel_rfl)) key)) ?_
    refine (nfIme ..).trans ?_
    exact if_pos (cdec_true.2 ⟨trivial, rfl, rfl⟩)

def rowDs (h : AHeap) (a : AV) (D : List DipC) : Prop := rowOk h a 18 = true ∧ rowOf h a = dipsC D
theorem rowDs_len {h : AHeap} {a : AV} {D : List DipC} (g : rowDs h a D) : nOf a = D.length := by
  have := rowLen g.1
  rw [g.2, dipsC_length] at this
  omega
theorem rowDs_canon {h : AHeap} {a : AV} {D : List DipC} (g : rowDs h a D) (n : Nat) : Canon h n a (.sl (some (n, 0)) D.length 0 false) [.cells (dipsC D) 18 .far none] := by
  have := rowCanon g.1 g.2 (dipsC_frees _) n
  rwa [rowDs_len g] at this
theorem rowDs_blk {h : AHeap} {k n r : Nat} {e : Bool} {md : Md} {par : Option Nat} {D : List DipC} (hk : h[k]? = some (.cells (dipsC D) 18 md par)) (hn : n = D.length) : rowDs h (.sl (some (k, 0)) n r e) D := by
  subst hn
  constructor
  · simp [rowOk, hk]
  · simp only [rowOf, hk, List.drop_zero]; exact List.take_of_length_le (by simp)
inductive RIm : List AV → AHeap → AV → AHeap → Prop
  | mk (P : PL) (D : List DipC) (j : Nat) (h : AHeap) (a s : AV) (b c : Nat) (e e' : Nat) (md md' : Md) (par par' : Option Nat) (ga : rowP h a P) (gb : h[b]? = some (.cells [s] e md par)) (he : e = 1) (gs : rowDs h s D) (gc : h[c]? = some (.cells [.int .i64 j] e' md' par')) (he' : e' = 1) (hj : j < D.length) (hl : P.length ≤ 1000000) (r : Int) (hr : ixP P D[j] = r) :
      RIm [a, .fn (.func 24) [.ptr (some (b, 0)), .ptr (some (c, 0))]] h (.int .i64 r) []
theorem kIm : ∀ args h v new, RIm args h v new → ∃ args1 h1, Canons h 0 args args1 h1 ∧ ∃ v1 h1', Runs Try.prog 23 args1 h1 v1 h1' ∧ ∃ ks, Den h1' h1.length h.length ks v1 v new ∧ KsOk ks := by
  intro args h v new hR
  cases hR with
  | mk P D j _ a s b c e e' md md' par par' ga gb he gs gc he' hj hl r hr =>
  subst hr he he'
  obtain ⟨h1, h2⟩ := runIm (P := P) (D := D) hl hj
  exact ⟨_, _, .cons _ _ _ _ _ _ _ (rowP_canon ga 0) (.cons _ _ _ _ _ _ _ (.fn _ _ _ _ _ (.cons _ _ _ _ _ _ _ (.ptr _ _ _ _ _ _ _ _ _ gb (by simp) (.cons _ _ _ _ _ _ _ (rowDs_canon gs 2) (.nil _))) (.cons _ _ _ _ _ _ _ (.ptr _ _ _ _ _ _ _ _ _ gc (by simp) (.cons _ _ _ _ _ _ _ (.flat _ _ rfl) (.nil _))) (.nil _)))) (.nil _)), _, h1, h2, [], .flat _ _ rfl, ksOk0⟩
theorem sIm : SoundE Try.prog 23 (entF (eRelI RIm)) := relI_sound kIm
theorem imU {P : PL} {D : List DipC} {j : Nat} {h : AHeap} {a s : AV} {b c : Nat} {md md' : Md} {par par' : Option Nat} (ga : rowP h a P) (gb : h[b]? = some (.cells [s] 1 md par)) (gs : rowDs h s D) (gc : h[c]? = some (.cells [.int .i64 j] 1 md' par')) (hj : j < D.length) (hl : P.length ≤ 1000000) :
    RIm [a, .fn (.func 24) [.ptr (some (b, 0)), .ptr (some (c, 0))]] h (.int .i64 (intC RIm [a, .fn (.func 24) [.ptr (some (b, 0)), .ptr (some (c, 0))]] h)) [] ∧ intC RIm [a, .fn (.func 24) [.ptr (some (b, 0)), .ptr (some (c, 0))]] h = ixP P D[j] := by
  have R := RIm.mk P D j h a s b c 1 1 md md' par par' ga gb rfl gs gc rfl hj hl _ rfl
  have e := intC_eq R fun r' R' => by
    cases R' with
    | mk P2 D2 j2 _ _ s2 _ _ e2 e2' m2 m2' p2 p2' ga2 gb2 he2 gs2 gc2 he2' hj2 hl2 _ hr2 =>
    rw [gb] at gb2
    injection gb2 with gb2; injection gb2 with gb2; injection gb2 with gb2
    subst gb2
    rw [gc] at gc2
    injection gc2 with gc2; injection gc2 with gc2; injection gc2 with gc2; injection gc2 with _ gc2
    have := itP_inj (ga2.2.symm.trans ga.2)
    have := dipsC_inj (gs2.2.symm.trans gs.2)
    have : j2 = j := by omega
    subst_vars
    rfl
  rw [e]
  exact ⟨R, rfl⟩

end Go.Proofs.Ytlppbeoiphglcaa.L
