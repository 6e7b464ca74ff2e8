/- slots.Shares: its contract. -/
import Derived.Test.YtlppbeoiphglcaaShN
set_option autoImplicit false
set_option maxRecDepth 100000
set_option linter.unusedVariables false
set_option linter.unusedSimpArgs false
namespace Go.Proofs.Ytlppbeoiphglcaa.L
open Go Go.Abs

theorem ilOf_eq (l : List Int) : ilOf (intL l) = l := by
  induction l with
  | nil => rfl
  | cons x l ih => show x :: ilOf (intL l) = _; rw [ih]
theorem intL_at {l : List Int} {i : Nat} (hi : i < l.length) : (intL l)[0 + (i : Int).toNat * 1]? = some (.int .i64 l[i]) := by
  rw [show 0 + (i : Int).toNat * 1 = i from by omega]; simp [hi]
theorem intL_put {l : List Int} {i : Nat} (hi : i < l.length) (w : Int) : putCells (intL l) (0 + (i : Int).toNat * 1) [.int .i64 w] = intL (l.set i w) := by
  rw [show 0 + (i : Int).toNat * 1 = i from by omega]
  simp [putCells, intL, List.map_set]


theorem runMx {l : List Int} (h0 : 0 < l.length) (hl : l.length ≤ 100000) : ∃ h', Runs Try.prog 29 [.sl (some (0, 0)) l.length 0 false] (hI (intL l)) (.int .i64 (maxI l)) h' := by
  have lp : loopsOf (bodyOf Try.prog 29) = [MXL] := by kernel_rfl
  let mA : Nat → Int := fun i => (l.take i).foldl (fun m x => max m x) (l.getD 0 0)
  have m1 : mA 1 = l[0] := by
    obtain ⟨x, t, rfl⟩ : ∃ x t, l = x :: t := by cases l with | nil => simp at h0 | cons x t => exact ⟨x, t, rfl⟩
    simp [mA]
  have mS : ∀ i (hi : i < l.length), mA (i + 1) = max (mA i) l[i] := by
    intro i hi
    simp only [mA]; rw [take_snoc hi, List.foldl_append]; rfl
  have mE : mA l.length = maxI l := by simp [mA, maxI]
  have key : True → ∃ j, GReach (roundG Try.prog (deepT Try.prog [] 100 4) (lsT noT) MXL mMx) 1 j (vMx l.length l[0] 1) (hI (intL l)) (.exit 0) (vMx l.length (maxI l) l.length) (hI (intL l)) := by
    intro _
    have s0 : vMx l.length l[0] 1 = vMx l.length (mA (0 + 1)) ((0 + 1 : Nat) : Int) := by rw [Nat.zero_add, m1]; rfl
    rw [s0]
    refine loop_T (fun i => (vMx l.length (mA (i + 1)) ((i + 1 : Nat) : Int), hI (intL l))) (N := l.length - 1) (by simp) (fun i hi => ⟨[(15, .bool true)], _, _, ?_, Gc.refl⟩) ⟨[(15, .bool false)], vMx l.length (maxI l) l.length, hI (intL l), ?_, Gc.refl⟩
    rotate_left
    · show qround _ _ _ _ _ _ _ _ (vMx l.length (mA (l.length - 1 + 1)) ((l.length - 1 + 1 : Nat) : Int)) _ = _
      rw [show l.length - 1 + 1 = l.length by omega, mE]
      exact (nfMxs ..).trans (if_pos (by simp))
    · have hi' : i + 1 < l.length := by omega
      refine (nfMxa ..).trans ?_
      rw [intL_at hi', wrap1 (by omega)]
      refine (if_pos (by simp; omega)).trans ?_
      refine (if_pos (by omega)).trans ?_
      refine (if_pos rfl).trans ?_
      have hm := mS _ hi'
      refine congrArg (fun z => some (AEx.norm, [AV.sl (some (0, 0)) l.length 0 false, AV.int IntKind.i64 z, AV.int IntKind.i64 ((i + 1 + 1 : Nat) : Int)], hI (intL l))) ?_
      rw [hm, if_pos rfl]
      show (if l[i + 1] > mA (i + 1) then l[i + 1] else mA (i + 1)) = _
      split <;> omega
  refine Runs.valT (find_nil _) (F := 100) (n := 4) (pr := [(7, .bool false)]) (only (k := 5) lp (fixC_T (find_nil _) (F := 100) (n := 4) (LS := noT) (noLoops (by kernel_rfl)) key)) ?_
  refine (nfMx ..).trans ?_
  have e0 : (intL l)[0]? = some (.int .i64 l[0]) := intL_at h0
  rw [e0]
  refine (if_pos (by simp; omega)).trans ?_
  refine (if_pos (by constructor; simp; omega)).trans ?_
  refine (if_pos rfl).trans ?_
  exact if_pos (cdec_true.2 ⟨trivial, rfl, rfl⟩)
theorem runIx {l : List Int} {v : Int} (hl : l.length ≤ 100000) : ∃ h', Runs Try.prog 28 [.sl (some (0, 0)) l.length 0 false, .int .i64 v] (hI (intL l)) (.int .i64 (idxI l v)) h' := by
  have lp : loopsOf (bodyOf Try.prog 28) = [IXL] := by kernel_rfl
  have step : ∀ i : Nat, i < l.length → i < l.findIdx (fun x => decide (v = x)) → qround Try.prog [] 100 4 [(9, .bool true), (16, .bool false)] noT IXL mIx (vIx l.length v 0 i) (hI (intL l)) = some (.norm, vIx l.length v 0 ((i + 1 : Nat) : Int), hI (intL l)) := by
    intro i hi hk
    have hne : v ≠ l[i] := by have := List.not_of_lt_findIdx (p := fun x : Int => decide (v = x)) (xs := l) hk; simpa using this
    refine (nfIxa ..).trans ?_
    rw [intL_at hi, wrap1 (by omega)]
    refine (if_pos (by simp; omega)).trans ?_
    refine (if_pos (by omega)).trans ?_
    refine (if_pos rfl).trans ?_
    refine (if_pos (by simpa [intV] using hne)).trans ?_
    rfl
  by_cases hj : l.findIdx (fun x => decide (v = x)) < l.length
  · have he : v = l[l.findIdx (fun x => decide (v = x))] := of_decide_eq_true (List.findIdx_getElem (p := fun x : Int => decide (v = x)) (xs := l) (w := hj))
    have key : True → ∃ j, GReach (roundG Try.prog (deepT Try.prog [] 100 4) (lsT noT) IXL mIx) 1 j (vIx l.length v 0 0) (hI (intL l)) .ret (vIx l.length v (l.findIdx (fun x => decide (v = x)) : Nat) (l.findIdx (fun x => decide (v = x)) : Nat)) (hI (intL l)) := by
      intro _
      refine loop_T (fun i => (vIx l.length v 0 i, hI (intL l))) (N := l.findIdx (fun x => decide (v = x))) (by simp) (fun i hi => ⟨_, _, _, step i (by omega) hi, Gc.refl⟩) ⟨[(9, .bool true), (16, .bool true)], _, _, ?_, Gc.refl⟩
      refine (nfIxb ..).trans ?_
      rw [intL_at hj]
      refine (if_pos (decide_eq_true (by omega))).trans ?_
      refine (if_pos (by omega)).trans ?_
      refine (if_pos rfl).trans ?_
      refine (if_pos (by simpa [intV] using he)).trans ?_
      rfl
    unfold idxI; rw [if_pos hj]
    refine Runs.valT (find_nil _) (F := 100) (n := 4) (pr := []) (only (k := 2) lp (fixC_T (find_nil _) (F := 100) (n := 4) (LS := noT) (noLoops (by kernel_rfl)) key)) ?_
    refine (nfIxr ..).trans ?_
    exact if_pos (cdec_true.2 ⟨trivial, rfl, rfl⟩)
  · have key : True → ∃ j, GReach (roundG Try.prog (deepT Try.prog [] 100 4) (lsT noT) IXL mIx) 1 j (vIx l.length v 0 0) (hI (intL l)) (.exit 0) (vIx l.length v 0 l.length) (hI (intL l)) := by
      intro _
      exact loop_T (fun i => (vIx l.length v 0 i, hI (intL l))) (N := l.length) (by simp) (fun i hi => ⟨_, _, _, step i hi (by omega), Gc.refl⟩) ⟨[(9, .bool false)], _, _, (nfIxs ..).trans (if_pos (by simp)), Gc.refl⟩
    unfold idxI; rw [if_neg hj]
    refine Runs.valT (find_nil _) (F := 100) (n := 4) (pr := []) (only (k := 2) lp (fixC_T (find_nil _) (F := 100) (n := 4) (LS := noT) (noLoops (by kernel_rfl)) key)) ?_
    refine (nfIxe ..).trans ?_
    exact if_pos (cdec_true.2 ⟨trivial, rfl, rfl⟩)
theorem sMax : SoundE Try.prog 29 (entF eMax) := canonV_sound fun args h v h' hg => by
  unfold eMax at hg
  split at hg
  · simp only [Option.some.injEq, Prod.mk.injEq] at hg
    obtain ⟨hc, rfl, rfl⟩ := hg
    obtain ⟨g, h0, hn⟩ := cdec_true.1 hc
    rw [rowI_len g] at h0 hn
    obtain ⟨h2, hr⟩ := runMx h0 hn
    rw [opq_eq]
    exact ⟨rfl, rfl, _, _, .cons _ _ _ _ _ _ _ (rowI_canon g 0) (.nil _), h2, hr⟩
  · simp at hg
theorem sIdx : SoundE Try.prog 28 (entF eIdx) := canonV_sound fun args h v h' hg => by
  unfold eIdx at hg
  split at hg
  · simp only [Option.some.injEq, Prod.mk.injEq] at hg
    obtain ⟨hc, rfl, rfl⟩ := hg
    obtain ⟨g, hn⟩ := cdec_true.1 hc
    rw [rowI_len g] at hn
    obtain ⟨h2, hr⟩ := runIx hn
    rw [opq_eq]
    exact ⟨rfl, rfl, _, _, .cons _ _ _ _ _ _ _ (rowI_canon g 0) (.cons _ _ _ _ _ _ _ (.flat _ _ rfl) (.nil _)), h2, hr⟩
  · simp at hg
theorem sCkF : SoundE Try.prog 12 (entF eCk) := canonV_sound fun args h v h' hg => by
  unfold eCk at hg
  split at hg
  · simp only [Option.some.injEq, Prod.mk.injEq] at hg
    obtain ⟨hc, rfl, rfl⟩ := hg
    obtain ⟨args1, h1, hca, v1, h1', hr, ks, hd, hk⟩ := kCk _ _ _ _ (cdec_true.1 hc)
    cases hd with
    | flat _ _ hf => exact ⟨rfl, rfl, _, _, hca, _, hr⟩
  · simp at hg
theorem ckF_ok {h : AHeap} {a : AV} {P : PL} (g : rowP h a P) : CkR [a] h (.int .i64 (opq (chkP (plOf (rowOf h a))))) [] ∧ opq (chkP (plOf (rowOf h a))) = chkP P := by
  have e : opq (chkP (plOf (rowOf h a))) = chkP P := by rw [opq_eq, g.2, plOf_eq]
  exact ⟨.mk P h a g _ e.symm, e⟩
theorem rowL_blk {h : AHeap} {k n r : Nat} {e : Bool} {md : Md} {par : Option Nat} {l : List Int} (hk : h[k]? = some (.cells (intL l) 1 md par)) (hn : n = l.length) : rowI h (.sl (some (k, 0)) n r e) l := by
  subst hn
  constructor
  · simp [rowOk, hk]
  · simp only [rowOf, hk, List.drop_zero]; exact List.take_of_length_le (by simp)

end Go.Proofs.Ytlppbeoiphglcaa.L
