/- The reference's Moved; Dips, few: their contracts. -/
import Derived.Test.YtlppbeoiphglcaaRsK
set_option autoImplicit false
set_option maxRecDepth 100000
set_option linter.unusedVariables false
set_option linter.unusedSimpArgs false
namespace Go.Proofs.Ytlppbeoiphglcaa.L
open Go Go.Abs

theorem rowRma {A B : List DipC} {n : Int} {i : Nat} (hA : i < A.length) (hB : i < B.length) (h1 : A.length ≤ 1000000) (hne : A[i] ≠ B[i]) (hn : 0 ≤ n ∧ n ≤ 10000000) :
    qround Try.prog [] 100 4 [(27, .bool true), (38, .bool true)] noT RML mRm (vRm A.length B.length n i) (hRm (dipsC A) (dipsC B)) = some (.norm, vRm A.length B.length (n + 1) ((i + 1 : Nat) : Int), hRm (dipsC A) (dipsC B)) := by
  have e5 := wrap1 (i := i) (by omega)
  have e4 : IntKind.i64.wrap (n + 1) = n + 1 := wrapI64 (by omega)
  have e6 : 0 + (i : Int).toNat * 18 = i * 18 := by omega
  have hlA := dipsC_length A
  have hlB := dipsC_length B
  refine (nfRma ..).trans ?_
  rw [e6, e5, e4, dipsC_at hA, dipsC_at hB]
  refine (if_pos (by simp; omega)).trans ?_
  refine (if_pos (by simp; omega)).trans ?_
  refine (if_pos (by omega)).trans ?_
  refine (if_pos (by omega)).trans ?_
  refine (if_pos (by omega)).trans ?_
  refine (if_pos (by omega)).trans ?_
  generalize A[i] = x at *
  generalize B[i] = d at *
  obtain ⟨v, b, q, hb⟩ := x
  obtain ⟨v', b', q', hb'⟩ := d
  obtain ⟨a0, a1, a2, a3, a4, a5, a6, a7, a8, a9, a10, a11, a12, a13, a14, a15, rfl⟩ := sixteen hb
  obtain ⟨c0, c1, c2, c3, c4, c5, c6, c7, c8, c9, c10, c11, c12, c13, c14, c15, rfl⟩ := sixteen hb'
  iterate 40 (refine (if_pos (by first | rfl | decide | (simp [DipC.cells]; done))).trans ?_)
  refine (if_pos ?_).trans rfl
  rw [Bool.not_eq_true']
  refine Bool.eq_false_iff.2 fun hc => hne ?_
  simp [DipC.cells, boolV, intV] at hc
  exact DipC.ext' hc.1.1 (by simp [hc]) (by simp [hc])
theorem rowRmb {A B : List DipC} {n : Int} {i : Nat} (hA : i < A.length) (hB : i < B.length) (h1 : A.length ≤ 1000000) (hne : A[i] = B[i]) (hn : 0 ≤ n ∧ n ≤ 10000000) :
    qround Try.prog [] 100 4 [(27, .bool true), (38, .bool false)] noT RML mRm (vRm A.length B.length n i) (hRm (dipsC A) (dipsC B)) = some (.norm, vRm A.length B.length n ((i + 1 : Nat) : Int), hRm (dipsC A) (dipsC B)) := by
  have e5 := wrap1 (i := i) (by omega)
  have e4 : IntKind.i64.wrap (n + 1) = n + 1 := wrapI64 (by omega)
  have e6 : 0 + (i : Int).toNat * 18 = i * 18 := by omega
  have hlA := dipsC_length A
  have hlB := dipsC_length B
  refine (nfRmb ..).trans ?_
  rw [e6, e5, dipsC_at hA, dipsC_at hB]
  refine (if_pos (by simp; omega)).trans ?_
  refine (if_pos (by simp; omega)).trans ?_
  refine (if_pos (by omega)).trans ?_
  refine (if_pos (by omega)).trans ?_
  refine (if_pos (by omega)).trans ?_
  refine (if_pos (by omega)).trans ?_
  generalize A[i] = x at *
  generalize B[i] = d at *
  obtain ⟨v, b, q, hb⟩ := x
  obtain ⟨v', b', q', hb'⟩ := d
  obtain ⟨a0, a1, a2, a3, a4, a5, a6, a7, a8, a9, a10, a11, a12, a13, a14, a15, rfl⟩ := sixteen hb
  obtain ⟨c0, c1, c2, c3, c4, c5, c6, c7, c8, c9, c10, c11, c12, c13, c14, c15, rfl⟩ := sixteen hb'
  iterate 40 (refine (if_pos (by first | rfl | decide | (simp [DipC.cells]; done))).trans ?_)
  refine (if_pos ?_).trans rfl
  cases hne
  simp [DipC.cells, boolV, intV]
theorem rowDpa {A : List DipC} {i : Nat} (hA : i < A.length) (h1 : A.length ≤ 1000000) :
    qround Try.prog [] 100 4 [(14, .bool true), (25, .bool false)] noT DPL mDp (vDp A.length A.length false i) (hRm (dipsC A) (dipsC A)) = some (.norm, vDp A.length A.length false ((i + 1 : Nat) : Int), hRm (dipsC A) (dipsC A)) := by
  have e5 := wrap1 (i := i) (by omega)
  have e6 : 0 + (i : Int).toNat * 18 = i * 18 := by omega
  have hlA := dipsC_length A
  refine (nfDpa ..).trans ?_
  rw [e6, e5, dipsC_at hA]
  refine (if_pos (by simp; omega)).trans ?_
  refine (if_pos (by omega)).trans ?_
  refine (if_pos (by omega)).trans ?_
  refine (if_pos (by omega)).trans ?_
  refine (if_pos (by omega)).trans ?_
  generalize A[i] = x at *
  obtain ⟨v, b, q, hb⟩ := x
  obtain ⟨a0, a1, a2, a3, a4, a5, a6, a7, a8, a9, a10, a11, a12, a13, a14, a15, rfl⟩ := sixteen hb
  iterate 40 (refine (if_pos (by first | rfl | decide | (simp [DipC.cells]; done))).trans ?_)
  refine (if_pos ?_).trans rfl
  simp [DipC.cells, boolV, intV]
theorem movN_both (A B : List DipC) : (movP A B : Int) = ((max A.length B.length : Nat) : Int) - ((min A.length B.length : Nat) : Int) + movN A B (min A.length B.length) := by
  have key : ∀ j, min A.length B.length + j ≤ max A.length B.length → movN A B (min A.length B.length + j) = movN A B (min A.length B.length) + j := by
    intro j
    induction j with
    | zero => intro _; rfl
    | succ j ih =>
      intro hj
      have := ih (by omega)
      rw [← Nat.add_assoc, movN_succ, this, if_pos]
      · rfl
      · unfold mvAt
        by_cases h : A.length ≤ B.length
        · rw [List.getElem?_eq_none (l := A) (by omega), List.getElem?_eq_getElem (l := B) (by omega)]; simp
        · rw [List.getElem?_eq_none (l := B) (by omega), List.getElem?_eq_getElem (l := A) (by omega)]; simp
  have := key (max A.length B.length - min A.length B.length) (by omega)
  rw [show min A.length B.length + (max A.length B.length - min A.length B.length) = max A.length B.length by omega] at this
  unfold movP
  omega
theorem runRm {A B : List DipC} (hA : A.length ≤ 1000000) (hB : B.length ≤ 1000000) : ∃ h', Runs Try.prog 19 [.sl (some (0, 0)) A.length 0 false, .sl (some (1, 0)) B.length 0 false] (hRm (dipsC A) (dipsC B)) (.int .i64 (movP A B)) h' := by
  have lp : loopsOf (bodyOf Try.prog 19) = [RML] := by kernel_rfl
  have hmv := movN_both A B
  generalize hm : min A.length B.length = m at *
  generalize hM : max A.length B.length = M at *
  have key : True → ∃ n, GReach (roundG Try.prog (deepT Try.prog [] 100 4) (lsT noT) RML mRm) 2 n (vRm A.length B.length ((M : Int) - m) 0) (hRm (dipsC A) (dipsC B)) (.exit 0) (vRm A.length B.length (movP A B) m) (hRm (dipsC A) (dipsC B)) := by
    intro _
    have s0 : vRm A.length B.length ((M : Int) - m) 0 = vRm A.length B.length ((M : Int) - m + movN A B 0) ((0 : Nat) : Int) := by
      rw [show movN A B 0 = 0 from rfl]; simp
    rw [s0]
    refine loop_T (fun i => (vRm A.length B.length ((M : Int) - m + movN A B i) i, hRm (dipsC A) (dipsC B))) (N := m) (by simp) (fun i hi => ?_) ⟨[(27, .bool false)], _, _, ?_, Gc.refl⟩
    · have hb := movN_le A B i
      have hiA : i < A.length := by omega
      have hiB : i < B.length := by omega
      by_cases he : A[i] = B[i]
      · refine ⟨_, _, _, rowRmb hiA hiB hA he (by omega), ?_⟩
        rw [movN_succ, if_neg (by unfold mvAt; rw [List.getElem?_eq_getElem hiA, List.getElem?_eq_getElem hiB, he]; simp)]; exact Gc.refl
      · refine ⟨_, _, _, rowRma hiA hiB hA he (by omega), ?_⟩
        rw [movN_succ, if_pos (by unfold mvAt; rw [List.getElem?_eq_getElem hiA, List.getElem?_eq_getElem hiB]; simpa using he), show (M : Int) - m + ((movN A B i + 1 : Nat) : Int) = (M : Int) - m + movN A B i + 1 by omega]; exact Gc.refl
    · show qround _ _ _ _ _ _ _ _ (vRm A.length B.length ((M : Int) - m + movN A B m) m) _ = _
      rw [← hmv]
      refine (nfRms ..).trans ?_
      by_cases h : m < A.length
      · exact (if_pos (by simp; omega)).trans (if_pos (by simp; omega))
      · exact if_neg (by simp; omega)
  refine Runs.valT (find_nil _) (F := 100) (n := 4) (pr := []) (only (k := 3) lp (fixC_T (find_nil _) (F := 100) (n := 4) (LS := noT) (noLoops (by kernel_rfl)) key)) ?_
  refine (nfRm ..).trans ?_
  have em : IntKind.i64.wrap ((if true = true then if (B.length : Int) > (A.length : Int) then (B.length : Int) else (A.length : Int) else if (B.length : Int) < (A.length : Int) then (B.length : Int) else (A.length : Int)) - if false = true then if (B.length : Int) > (A.length : Int) then (B.length : Int) else (A.length : Int) else if (B.length : Int) < (A.length : Int) then (B.length : Int) else (A.length : Int)) = (M : Int) - m := by
    simp only [if_true, Bool.false_eq_true, if_false]
    split <;> split <;> (rw [wrapI64 (by omega)]; omega)
  exact if_pos (cdec_true.2 ⟨trivial, by rw [em], rfl⟩)
inductive RmR : List AV → AHeap → AV → AHeap → Prop
  | mk (A B : List DipC) (h : AHeap) (a b : AV) (ga : rowDs h a A) (gb : rowDs h b B) (hA : A.length ≤ 1000000) (hB : B.length ≤ 1000000) (r : Int) (hr : r = (movP A B : Nat)) : RmR [a, b] h (.int .i64 r) []
theorem kRm : ∀ args h v new, RmR args h v new → ∃ args1 h1, Canons h 0 args args1 h1 ∧ ∃ v1 h1', Runs Try.prog 19 args1 h1 v1 h1' ∧ ∃ ks, Den h1' h1.length h.length ks v1 v new ∧ KsOk ks := by
  intro args h v new hR
  cases hR with
  | mk A B _ a b ga gb hA hB r hr =>
  subst hr
  obtain ⟨h1, h2⟩ := runRm hA hB
  exact ⟨_, _, .cons _ _ _ _ _ _ _ (rowDs_canon ga 0) (.cons _ _ _ _ _ _ _ (rowDs_canon gb 1) (.nil _)), _, h1, h2, [], .flat _ _ rfl, ksOk0⟩
theorem sRmI : SoundE Try.prog 19 (entF (eRelI RmR)) := relI_sound kRm
theorem rmU {A B : List DipC} {h : AHeap} {a b : AV} (ga : rowDs h a A) (gb : rowDs h b B) (hA : A.length ≤ 1000000) (hB : B.length ≤ 1000000) : RmR [a, b] h (.int .i64 (intC RmR [a, b] h)) [] ∧ intC RmR [a, b] h = (movP A B : Nat) := by
  have R := RmR.mk A B h a b ga gb hA hB _ rfl
  have e := intC_eq R fun r' R' => by
    cases R' with
    | mk A2 B2 _ _ _ ga2 gb2 hA2 hB2 _ hr2 =>
    have h1 := dipsC_inj (ga2.2.symm.trans ga.2)
    have h2 := dipsC_inj (gb2.2.symm.trans gb.2)
    rw [hr2, h1, h2]
  rw [e]
  exact ⟨R, rfl⟩


theorem runDp {A : List DipC} (hA : A.length ≤ 1000000) : ∃ h', Runs Try.prog 17 [.sl (some (0, 0)) A.length 0 false, .sl (some (1, 0)) A.length 0 false] (hRm (dipsC A) (dipsC A)) (.bool true) h' := by
  have lp : loopsOf (bodyOf Try.prog 17) = [DPL] := by kernel_rfl
  have key : True → ∃ n, GReach (roundG Try.prog (deepT Try.prog [] 100 4) (lsT noT) DPL mDp) 2 n (vDp A.length A.length false 0) (hRm (dipsC A) (dipsC A)) (.exit 0) (vDp A.length A.length false A.length) (hRm (dipsC A) (dipsC A)) := by
    intro _
    exact loop_T (fun i => (vDp A.length A.length false i, hRm (dipsC A) (dipsC A))) (N := A.length) (by simp) (fun i hi => ⟨_, _, _, rowDpa hi hA, Gc.refl⟩) ⟨[(14, .bool false)], _, _, (nfDps ..).trans (if_pos (by simp)), Gc.refl⟩
  refine Runs.valT (find_nil _) (F := 100) (n := 4) (pr := [(10, .bool false)]) (only (k := 4) lp (fixC_T (find_nil _) (F := 100) (n := 4) (LS := noT) (noLoops (by kernel_rfl)) key)) ?_
  refine (nfDp ..).trans ?_
  refine (if_pos (by simp)).trans ?_
  exact if_pos (cdec_true.2 ⟨trivial, rfl, rfl⟩)
inductive DpR : List AV → AHeap → AV → AHeap → Prop
  | mk (A : List DipC) (h : AHeap) (a b : AV) (ga : rowDs h a A) (gb : rowDs h b A) (hA : A.length ≤ 1000000) : DpR [a, b] h (.bool true) []
theorem sDp (L : List (Nat × AV × AHeap)) : SoundE Try.prog 17 (entF (eRel DpR L)) := by
  refine relR_sound (fun args h v new hR => ?_) L
  cases hR with
  | mk A _ a b ga gb hA =>
  obtain ⟨h1, h2⟩ := runDp hA
  exact ⟨_, _, .cons _ _ _ _ _ _ _ (rowDs_canon ga 0) (.cons _ _ _ _ _ _ _ (rowDs_canon gb 1) (.nil _)), _, h1, h2, [], .flat _ _ rfl, ksOk0⟩

end Go.Proofs.Ytlppbeoiphglcaa.L
