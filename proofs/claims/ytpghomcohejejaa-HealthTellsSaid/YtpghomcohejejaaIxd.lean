/- slices.IndexFunc over DIPs: its contract. -/
import Derived.Test.YtpghomcohejejaaIxdN
set_option autoImplicit false
set_option maxRecDepth 100000
set_option linter.unusedVariables false
set_option linter.unusedSimpArgs false
namespace Go.Proofs.Ytpghomcohejejaa.L
open Go Go.Abs

noncomputable instance : DecidableEq DipC := fun a b => Classical.propDecidable (a = b)
noncomputable def atD (P : List DipC) (k : DipC) : Nat := P.findIdx fun p => decide (p = k)
noncomputable def ixD (P : List DipC) (k : DipC) : Int := if atD P k < P.length then atD P k else -1
theorem gcIxd (P : List DipC) (k : DipC) (n : Nat) (r i : Int) (X : ABlk) : Gc 2 (vIxd n r i) (hIxd (dipsC P) k.cells ++ [X]) (vIxd n r i) (hIxd (dipsC P) k.cells) :=
  Gc.by [0, 1] rfl (by decide) (.cons _ _ _ _ (.sl _ _ _ _ _ _ rfl) (.cons _ _ _ _ (.fn _ _ _ (.cons _ _ _ _ (.ptr _ _ _ rfl) .nil)) (.free _ rfl))) (.cons _ _ _ _ _ rfl (.row (dipsC_frees P) (by simp)) (.cons _ _ _ _ _ rfl (.row k.cells_frees (by simp)) .nil))
theorem rowIxda {n i : Nat} {Cs : List AV} {x k : DipC} (hi : i < n) (hn : n ≤ 1000000) (hl : Cs.length = n * 18) (hx : List.take 18 (List.drop (i * 18) Cs) = x.cells) (hne : x ≠ k) :
    qround Try.prog [] 100 4 [(9, .bool true), (16, .bool false)] noT LIxd mIxd (vIxd n 0 i) (hIxd Cs k.cells) = some (.norm, vIxd n 0 ((i + 1 : Nat) : Int), hIxd Cs k.cells ++ [.cells x.cells 18 .own none]) := by
  have e5 : IntKind.i64.wrap ((i : Int) + 1) = ((i + 1 : Nat) : Int) := by rw [wrapI64 (by omega)]; omega
  have e6 : 0 + (i : Int).toNat * 18 = i * 18 := by omega
  rw [nfIxda]
  unfold hIxda0
  rw [e6, hx, e5]
  obtain ⟨v, b, q, hb⟩ := x
  obtain ⟨v', b', q', hb'⟩ := k
  obtain ⟨a0, a1, a2, a3, a4, a5, a6, a7, a8, a9, a10, a11, a12, a13, a14, a15, rfl⟩ := sixteen hb
  obtain ⟨c0, c1, c2, c3, c4, c5, c6, c7, c8, c9, c10, c11, c12, c13, c14, c15, rfl⟩ := sixteen hb'
  refine (if_pos (by simp; omega)).trans ?_
  refine (if_pos (by omega)).trans ?_
  refine (if_pos (by omega)).trans ?_
  iterate 42 (refine (if_pos (by first | rfl | decide | (simp [DipC.cells]; done))).trans ?_)
  refine (if_pos (Bool.eq_false_iff.2 fun hc => hne ?_)).trans ?_
  · simp [DipC.cells, boolV, intV] at hc
    exact DipC.ext' hc.1.1 (by simp [hc]) (by simp [hc])
  · rfl
theorem rowIxdb {n i : Nat} {Cs : List AV} {k : DipC} (hi : i < n) (hn : n ≤ 1000000) (hl : Cs.length = n * 18) (hx : List.take 18 (List.drop (i * 18) Cs) = k.cells) :
    qround Try.prog [] 100 4 [(9, .bool true), (16, .bool true)] noT LIxd mIxd (vIxd n 0 i) (hIxd Cs k.cells) = some (.ret, vIxd n i i, hIxd Cs k.cells ++ [.cells k.cells 18 .own none]) := by
  have e6 : 0 + (i : Int).toNat * 18 = i * 18 := by omega
  rw [nfIxdb]
  unfold hIxdb0
  rw [e6, hx]
  obtain ⟨v', b', q', hb'⟩ := k
  obtain ⟨c0, c1, c2, c3, c4, c5, c6, c7, c8, c9, c10, c11, c12, c13, c14, c15, rfl⟩ := sixteen hb'
  refine (if_pos (by simp; omega)).trans ?_
  refine (if_pos (by omega)).trans ?_
  refine (if_pos (by omega)).trans ?_
  iterate 42 (refine (if_pos (by first | rfl | decide | (simp [DipC.cells]; done))).trans ?_)
  refine (if_pos (by simp [DipC.cells, boolV, intV])).trans ?_
  rfl
theorem runIxd {P : List DipC} {k : DipC} (hl : P.length ≤ 1000000) : ∃ h', Runs Try.prog 22 [.sl (some (0, 0)) P.length 0 false, fIxd] (hIxd (dipsC P) k.cells) (.int .i64 (ixD P k)) h' := by
  have lp : loopsOf (bodyOf Try.prog 22) = [LIxd] := by kernel_rfl
  have step : ∀ i : Nat, i < P.length → i < atD P k → ∃ vs1 h1, qround Try.prog [] 100 4 [(9, .bool true), (16, .bool false)] noT LIxd mIxd (vIxd P.length 0 i) (hIxd (dipsC P) k.cells) = some (.norm, vs1, h1) ∧ Gc 2 vs1 h1 (vIxd P.length 0 ((i + 1 : Nat) : Int)) (hIxd (dipsC P) k.cells) := by
    intro i hi hk
    have hne : P[i] ≠ k := by have := List.not_of_lt_findIdx (p := fun p : DipC => decide (p = k)) (xs := P) hk; simpa using this
    exact ⟨_, _, rowIxda hi hl (by simp) (dipsC_at hi) hne, gcIxd _ _ _ _ _ _⟩
  by_cases hj : atD P k < P.length
  · have key : True → ∃ j, GReach (roundG Try.prog (deepT Try.prog [] 100 4) (lsT noT) LIxd mIxd) 2 j (vIxd P.length 0 0) (hIxd (dipsC P) k.cells) .ret (vIxd P.length (atD P k) (atD P k)) (hIxd (dipsC P) k.cells) := by
      intro _
      have he : P[atD P k] = k := of_decide_eq_true (List.findIdx_getElem (p := fun p : DipC => decide (p = k)) (xs := P) (w := hj))
      exact loop_T (fun i => (vIxd P.length 0 i, hIxd (dipsC P) k.cells)) (N := atD P k) (by simp) (fun i hi => ⟨_, step i (by omega) hi⟩) ⟨_, _, _, rowIxdb hj hl (by simp) ((dipsC_at hj).trans (by rw [he])), gcIxd _ _ _ _ _ _⟩
    obtain ⟨h1, h2⟩ : ∃ h', Runs Try.prog 22 [.sl (some (0, 0)) P.length 0 false, fIxd] (hIxd (dipsC P) k.cells) (.int .i64 (atD P k)) h' := by
      refine Runs.valT (find_nil _) (F := 100) (n := 4) (pr := []) (only (k := 2) lp (fixC_T (find_nil _) (F := 100) (n := 4) (LS := noT) (noLoops (by kernel_rfl)) key)) ?_
      rw [nfIxdY]
      exact if_pos (cdec_true.2 ⟨trivial, rfl, rfl⟩)
    exact ⟨h1, by unfold ixD; rw [if_pos hj]; exact h2⟩
  · have key : True → ∃ j, GReach (roundG Try.prog (deepT Try.prog [] 100 4) (lsT noT) LIxd mIxd) 2 j (vIxd P.length 0 0) (hIxd (dipsC P) k.cells) (.exit 0) (vIxd P.length 0 P.length) (hIxd (dipsC P) k.cells) := by
      intro _
      exact loop_T (fun i => (vIxd P.length 0 i, hIxd (dipsC P) k.cells)) (N := P.length) (by simp) (fun i hi => ⟨_, step i hi (by omega)⟩) ⟨_, _, _, (nfIxds P.length P.length _ _).trans (if_pos (by simp)), Gc.refl⟩
    obtain ⟨h1, h2⟩ : ∃ h', Runs Try.prog 22 [.sl (some (0, 0)) P.length 0 false, fIxd] (hIxd (dipsC P) k.cells) (.int .i64 (-1)) h' := by
      refine Runs.valT (find_nil _) (F := 100) (n := 4) (pr := []) (only (k := 2) lp (fixC_T (find_nil _) (F := 100) (n := 4) (LS := noT) (noLoops (by kernel_rfl)) key)) ?_
      rw [nfIxdX]
      exact if_pos (cdec_true.2 ⟨trivial, rfl, rfl⟩)
    exact ⟨h1, by unfold ixD; rw [if_neg hj]; exact h2⟩

inductive RIxd : List AV → AHeap → AV → AHeap → Prop
  | mk (P : List DipC) (k : DipC) (h : AHeap) (a : AV) (c : Nat) (e : Nat) (md : Md) (par : Option Nat) (ga : rowOk h a 18 = true) (gr : rowOf h a = dipsC P) (gc : h[c]? = some (.cells k.cells e md par)) (he : e = 18) (hl : P.length ≤ 1000000) (r : Int) (hr : ixD P k = r) :
      RIxd [a, .fn (.func 19) [.ptr (some (c, 0))]] h (.int .i64 r) []
theorem kIxd : ∀ args h v new, RIxd args h v new → ∃ args1 h1, Canons h 0 args args1 h1 ∧ ∃ v1 h1', Runs Try.prog 22 args1 h1 v1 h1' ∧ ∃ ks, Den h1' h1.length h.length ks v1 v new ∧ KsOk ks := by
  intro args h v new hR
  cases hR with
  | mk P k _ a c e md par ga gr gc he hl r hr =>
  subst hr he
  obtain ⟨h1, h2⟩ := runIxd (P := P) (k := k) hl
  have hn : nOf a = P.length := by
    have := rowLen ga
    rw [gr, dipsC_length] at this; omega
  have ca := rowCanon ga gr (dipsC_frees P) 0
  rw [hn] at ca
  exact ⟨_, _, .cons _ _ _ _ _ _ _ ca (.cons _ _ _ _ _ _ _ (.fn _ _ _ _ _ (.cons _ _ _ _ _ _ _ (.ptr _ _ _ _ _ _ _ _ _ gc (by intro e; have := congrArg List.length e; simp at this) (Canons.frees k.cells_frees)) (.nil _))) (.nil _)), _, h1, h2, [], .flat _ _ rfl, ksOk0⟩
theorem sIIxd : SoundE Try.prog 22 (entF (eRelI RIxd)) := relI_sound kIxd

end Go.Proofs.Ytpghomcohejejaa.L
