/- Servers, count, Moved: their contracts. -/
import Derived.Test.YtlppbeoiphglcaaCmN
set_option autoImplicit false
set_option maxRecDepth 100000
set_option linter.unusedVariables false
set_option linter.unusedSimpArgs false
namespace Go.Proofs.Ytlppbeoiphglcaa.L
open Go Go.Abs


noncomputable def cntD (D : List DipC) (d : DipC) : Nat := D.countP fun x => decide (x = d)

noncomputable def mvAt (A B : List DipC) (i : Nat) : Bool := !decide (A[i]? = B[i]?)
noncomputable def movN (A B : List DipC) (n : Nat) : Nat := (List.range n).countP (mvAt A B)
noncomputable def movP (A B : List DipC) : Nat := movN A B (max A.length B.length)
theorem movN_succ (A B : List DipC) (n : Nat) : movN A B (n + 1) = movN A B n + if mvAt A B n = true then 1 else 0 := by
  unfold movN; rw [List.range_succ, List.countP_append]; simp [List.countP_cons]
theorem movN_le (A B : List DipC) (n : Nat) : movN A B n ≤ n := by
  have := List.countP_le_length (p := mvAt A B) (l := List.range n)
  simpa [movN] using this
theorem rowMva {A B : List DipC} {n : Int} {i : Nat} {m : Nat} (hi : i < m) (hm : m = max A.length B.length) (hA : A.length ≤ 1000000) (hB : B.length ≤ 1000000) (hne : mvAt A B i = true) (hn : 0 ≤ n ∧ n ≤ 1000000) :
    qround Try.prog [] 100 4 [(12, .bool true), (34, .bool true)] noT MVL mMv (vMv A.length B.length n m i) (hMv (dipsC A) (dipsC B)) = some (.norm, vMv A.length B.length (n + 1) m ((i + 1 : Nat) : Int), hMv (dipsC A) (dipsC B)) := by
  have e5 := wrap1 (i := i) (by omega)
  have e4 : IntKind.i64.wrap (n + 1) = n + 1 := wrapI64 (by omega)
  have e6 : 0 + (i : Int).toNat * 18 = i * 18 := by omega
  refine (nfMva ..).trans ?_
  rw [e6, e5, e4]
  refine (if_pos (by simp; omega)).trans ?_
  by_cases hiA : i < A.length
  · by_cases hiB : i < B.length
    · refine (if_neg (by simp; omega)).trans ?_
      refine (if_neg (by simp; omega)).trans ?_
      rw [dipsC_at hiA, dipsC_at hiB]
      refine (if_pos (by omega)).trans ?_
      refine (if_pos (by rw [dipsC_length]; omega)).trans ?_
      refine (if_pos (by omega)).trans ?_
      refine (if_pos (by rw [dipsC_length]; omega)).trans ?_
      unfold mvAt at hne
      rw [List.getElem?_eq_getElem hiA, List.getElem?_eq_getElem hiB] at hne
      simp only [Option.some.injEq] at hne
      generalize A[i] = x at *
      generalize B[i] = d at *
      obtain ⟨v, b, q, hb⟩ := x
      obtain ⟨v', b', q', hb'⟩ := d
      obtain ⟨a0, a1, a2, a3, a4, a5, a6, a7, a8, a9, a10, a11, a12, a13, a14, a15, rfl⟩ := sixteen hb
      obtain ⟨c0, c1, c2, c3, c4, c5, c6, c7, c8, c9, c10, c11, c12, c13, c14, c15, rfl⟩ := sixteen hb'
      iterate 40 (refine (if_pos (by first | rfl | decide | (simp [DipC.cells]; done))).trans ?_)
      refine (if_pos ?_).trans rfl
      simp only [Bool.not_eq_true', decide_eq_false_iff_not] at hne
      rw [Bool.not_eq_true']
      refine Bool.eq_false_iff.2 fun hc => hne ?_
      simp [DipC.cells, boolV, intV] at hc
      exact DipC.ext' hc.1.1 (by simp [hc]) (by simp [hc])
    · refine (if_neg (by simp; omega)).trans ?_
      exact (if_pos (by simp; omega)).trans rfl
  · exact (if_pos (by simp; omega)).trans rfl
theorem rowMvb {A B : List DipC} {n : Int} {i : Nat} {m : Nat} (hi : i < m) (hm : m = max A.length B.length) (hA : A.length ≤ 1000000) (hB : B.length ≤ 1000000) (hne : mvAt A B i = false) (hn : 0 ≤ n ∧ n ≤ 1000000) :
    qround Try.prog [] 100 4 [(12, .bool true), (34, .bool false)] noT MVL mMv (vMv A.length B.length n m i) (hMv (dipsC A) (dipsC B)) = some (.norm, vMv A.length B.length n m ((i + 1 : Nat) : Int), hMv (dipsC A) (dipsC B)) := by
  have e5 := wrap1 (i := i) (by omega)
  have e4 : IntKind.i64.wrap (n + 1) = n + 1 := wrapI64 (by omega)
  have e6 : 0 + (i : Int).toNat * 18 = i * 18 := by omega
  refine (nfMvb ..).trans ?_
  rw [e6, e5]
  refine (if_pos (by simp; omega)).trans ?_
  by_cases hiA : i < A.length
  · by_cases hiB : i < B.length
    · refine (if_neg (by simp; omega)).trans ?_
      refine (if_neg (by simp; omega)).trans ?_
      rw [dipsC_at hiA, dipsC_at hiB]
      refine (if_pos (by omega)).trans ?_
      refine (if_pos (by rw [dipsC_length]; omega)).trans ?_
      refine (if_pos (by omega)).trans ?_
      refine (if_pos (by rw [dipsC_length]; omega)).trans ?_
      unfold mvAt at hne
      rw [List.getElem?_eq_getElem hiA, List.getElem?_eq_getElem hiB] at hne
      simp only [Option.some.injEq] at hne
      generalize A[i] = x at *
      generalize B[i] = d at *
      obtain ⟨v, b, q, hb⟩ := x
      obtain ⟨v', b', q', hb'⟩ := d
      obtain ⟨a0, a1, a2, a3, a4, a5, a6, a7, a8, a9, a10, a11, a12, a13, a14, a15, rfl⟩ := sixteen hb
      obtain ⟨c0, c1, c2, c3, c4, c5, c6, c7, c8, c9, c10, c11, c12, c13, c14, c15, rfl⟩ := sixteen hb'
      iterate 40 (refine (if_pos (by first | rfl | decide | (simp [DipC.cells]; done))).trans ?_)
      refine (if_pos ?_).trans rfl
      simp only [Bool.not_eq_false', decide_eq_true_eq, DipC.mk.injEq, List.cons.injEq, and_true] at hne
      simp [DipC.cells, boolV, intV, hne]
    · unfold mvAt at hne
      rw [List.getElem?_eq_getElem hiA, List.getElem?_eq_none (by omega)] at hne
      simp at hne
  · unfold mvAt at hne
    rw [List.getElem?_eq_none (l := A) (by omega), List.getElem?_eq_getElem (l := B) (by omega)] at hne
    simp at hne
theorem runMv {A B : List DipC} (hA : A.length ≤ 1000000) (hB : B.length ≤ 1000000) : ∃ h', Runs Try.prog 18 [.sl (some (0, 0)) A.length 0 false, .sl (some (1, 0)) B.length 0 false] (hMv (dipsC A) (dipsC B)) (.int .i64 (movP A B)) h' := by
  have lp : loopsOf (bodyOf Try.prog 18) = [MVL] := by kernel_rfl
  generalize hm : max A.length B.length = m
  have key : True → ∃ n, GReach (roundG Try.prog (deepT Try.prog [] 100 4) (lsT noT) MVL mMv) 2 n (vMv A.length B.length 0 m 0) (hMv (dipsC A) (dipsC B)) (.exit 0) (vMv A.length B.length (movP A B) m m) (hMv (dipsC A) (dipsC B)) := by
    intro _
    refine loop_T (fun i => (vMv A.length B.length (movN A B i) m i, hMv (dipsC A) (dipsC B))) (N := m) (by simp) (fun i hi => ?_) ⟨[(12, .bool false)], _, _, (nfMvs ..).trans (if_pos (by simp)), by unfold movP; rw [hm]; exact Gc.refl⟩
    have hb := movN_le A B i
    by_cases he : mvAt A B i = true
    · refine ⟨_, _, _, rowMva hi hm.symm hA hB he (by omega), ?_⟩
      rw [movN_succ, if_pos he]; exact Gc.refl
    · refine ⟨_, _, _, rowMvb hi hm.symm hA hB (by simpa using he) (by omega), ?_⟩
      rw [movN_succ, if_neg he]; exact Gc.refl
  refine Runs.valT (find_nil _) (F := 100) (n := 4) (pr := []) (only (k := 2) lp (fixC_T (find_nil _) (F := 100) (n := 4) (LS := noT) (noLoops (by kernel_rfl)) key)) ?_
  refine (nfMv ..).trans ?_
  have em : (if true = true then if (B.length : Int) > (A.length : Int) then (B.length : Int) else (A.length : Int) else if (B.length : Int) < (A.length : Int) then (B.length : Int) else (A.length : Int)) = (m : Int) := by
    rw [if_pos rfl]; split <;> omega
  exact if_pos (cdec_true.2 ⟨trivial, by rw [em], rfl⟩)
inductive MvR : List AV → AHeap → AV → AHeap → Prop
  | mk (A B : List DipC) (h : AHeap) (a b : AV) (ga : rowDs h a A) (gb : rowDs h b B) (hA : A.length ≤ 1000000) (hB : B.length ≤ 1000000) (r : Int) (hr : r = (movP A B : Nat)) : MvR [a, b] h (.int .i64 r) []
theorem kMv : ∀ args h v new, MvR args h v new → ∃ args1 h1, Canons h 0 args args1 h1 ∧ ∃ v1 h1', Runs Try.prog 18 args1 h1 v1 h1' ∧ ∃ ks, Den h1' h1.length h.length ks v1 v new ∧ KsOk ks := by
  intro args h v new hR
  cases hR with
  | mk A B _ a b ga gb hA hB r hr =>
  subst hr
  obtain ⟨h1, h2⟩ := runMv hA hB
  exact ⟨_, _, .cons _ _ _ _ _ _ _ (rowDs_canon ga 0) (.cons _ _ _ _ _ _ _ (rowDs_canon gb 1) (.nil _)), _, h1, h2, [], .flat _ _ rfl, ksOk0⟩
theorem sMvI : SoundE Try.prog 18 (entF (eRelI MvR)) := relI_sound kMv
theorem mvU {A B : List DipC} {h : AHeap} {a b : AV} (ga : rowDs h a A) (gb : rowDs h b B) (hA : A.length ≤ 1000000) (hB : B.length ≤ 1000000) : MvR [a, b] h (.int .i64 (intC MvR [a, b] h)) [] ∧ intC MvR [a, b] h = (movP A B : Nat) := by
  have R := MvR.mk A B h a b ga gb hA hB _ rfl
  have e := intC_eq R fun r' R' => by
    cases R' with
    | mk A2 B2 _ _ _ ga2 gb2 hA2 hB2 _ hr2 =>
    have h1 := dipsC_inj (ga2.2.symm.trans ga.2)
    have h2 := dipsC_inj (gb2.2.symm.trans gb.2)
    rw [hr2, h1, h2]
  rw [e]
  exact ⟨R, rfl⟩


def svN (W : List Int) (v : Bool) (n : Nat) : PL := (List.range n).map fun i : Nat => (dipN v i, 1 + W.getD i 0 % 16)
@[simp] theorem svN_len (W : List Int) (v : Bool) (n : Nat) : (svN W v n).length = n := by simp [svN]
end Go.Proofs.Ytlppbeoiphglcaa.L
