/- Servers, count, Moved: their contracts. -/
import Derived.Test.YtlppbeoiphglcaaCmN
set_option autoImplicit false
set_option maxRecDepth 100000
set_option linter.unusedVariables false
set_option linter.unusedSimpArgs false
namespace Go.Proofs.Ytlppbeoiphglcaa.L
open Go Go.Abs


noncomputable def cntD (D : List DipC) (d : DipC) : Nat := D.countP fun x => decide (x = d)
theorem cntD_snoc {D : List DipC} {d : DipC} {i : Nat} (hi : i < D.length) : cntD (D.take (i + 1)) d = cntD (D.take i) d + if D[i] = d then 1 else 0 := by
  unfold cntD; rw [take_snoc hi, List.countP_append]; simp [List.countP_cons]
theorem rowCna {C : List AV} {k : Nat} {n : Int} {i : Nat} {x d : DipC} (hi : i < k) (hk : k ≤ 1000000) (hl : C.length = k * 18) (hx : List.take 18 (List.drop (i * 18) C) = x.cells) (hne : x = d) (hn : 0 ≤ n ∧ n ≤ 1000000) :
    qround Try.prog [] 100 4 [(10, .bool true), (18, .bool true)] noT CNL mCn (vCn k n i) (hCn C d.cells) = some (.norm, vCn k (n + 1) ((i + 1 : Nat) : Int), hCn C d.cells) := by
  have e5 := wrap1 (i := i) (by omega)
  have e4 : IntKind.i64.wrap (n + 1) = n + 1 := wrapI64 (by omega)
  have e6 : 0 + (i : Int).toNat * 18 = i * 18 := by omega
  refine (nfCna ..).trans ?_
  rw [e6, hx, e5, e4]
  refine (if_pos (by simp; omega)).trans ?_
  refine (if_pos (by omega)).trans ?_
  refine (if_pos (by omega)).trans ?_
  refine (if_pos (by simp)).trans ?_
  obtain ⟨v, b, q, hb⟩ := x
  obtain ⟨v', b', q', hb'⟩ := d
  obtain ⟨a0, a1, a2, a3, a4, a5, a6, a7, a8, a9, a10, a11, a12, a13, a14, a15, rfl⟩ := sixteen hb
  obtain ⟨c0, c1, c2, c3, c4, c5, c6, c7, c8, c9, c10, c11, c12, c13, c14, c15, rfl⟩ := sixteen hb'
  iterate 40 (refine (if_pos (by first | rfl | decide | (simp [DipC.cells]; done))).trans ?_)
  refine (if_pos (by cases hne; simp [DipC.cells, boolV, intV])).trans ?_
  rfl
theorem rowCnb {C : List AV} {k : Nat} {n : Int} {i : Nat} {x d : DipC} (hi : i < k) (hk : k ≤ 1000000) (hl : C.length = k * 18) (hx : List.take 18 (List.drop (i * 18) C) = x.cells) (hne : x ≠ d) (hn : 0 ≤ n ∧ n ≤ 1000000) :
    qround Try.prog [] 100 4 [(10, .bool true), (18, .bool false)] noT CNL mCn (vCn k n i) (hCn C d.cells) = some (.norm, vCn k n ((i + 1 : Nat) : Int), hCn C d.cells) := by
  have e5 := wrap1 (i := i) (by omega)
  have e4 : IntKind.i64.wrap (n + 1) = n + 1 := wrapI64 (by omega)
  have e6 : 0 + (i : Int).toNat * 18 = i * 18 := by omega
  refine (nfCnb ..).trans ?_
  rw [e6, hx, e5]
  refine (if_pos (by simp; omega)).trans ?_
  refine (if_pos (by omega)).trans ?_
  refine (if_pos (by omega)).trans ?_
  refine (if_pos (by simp)).trans ?_
  obtain ⟨v, b, q, hb⟩ := x
  obtain ⟨v', b', q', hb'⟩ := d
  obtain ⟨a0, a1, a2, a3, a4, a5, a6, a7, a8, a9, a10, a11, a12, a13, a14, a15, rfl⟩ := sixteen hb
  obtain ⟨c0, c1, c2, c3, c4, c5, c6, c7, c8, c9, c10, c11, c12, c13, c14, c15, rfl⟩ := sixteen hb'
  iterate 40 (refine (if_pos (by first | rfl | decide | (simp [DipC.cells]; done))).trans ?_)
  refine (if_pos (Bool.eq_false_iff.2 fun hc => hne ?_)).trans ?_
  · simp [DipC.cells, boolV, intV] at hc
    exact DipC.ext' hc.1.1 (by simp [hc]) (by simp [hc])
  · rfl
theorem runCn {D : List DipC} {d : DipC} (hl : D.length ≤ 1000000) : ∃ h', Runs Try.prog 21 [.sl (some (0, 0)) D.length 0 false, .agg d.cells] [.cells (dipsC D) 18 .far none] (.int .i64 (cntD D d)) h' := by
  have lp : loopsOf (bodyOf Try.prog 21) = [CNL] := by kernel_rfl
  have hle : ∀ i, cntD (D.take i) d ≤ D.length := fun i => by
    unfold cntD
    have := List.countP_le_length (p := fun x => decide (x = d)) (l := D.take i)
    simp at this; omega
  have key : True → ∃ n, GReach (roundG Try.prog (deepT Try.prog [] 100 4) (lsT noT) CNL mCn) 2 n (vCn D.length 0 0) (hCn (dipsC D) d.cells) (.exit 0) (vCn D.length (cntD D d) D.length) (hCn (dipsC D) d.cells) := by
    intro _
    refine loop_T (fun i => (vCn D.length (cntD (D.take i) d) i, hCn (dipsC D) d.cells)) (N := D.length) (by simp) (fun i hi => ?_) ⟨[(10, .bool false)], _, _, (nfCns ..).trans (if_pos (by simp)), by rw [List.take_length]; exact Gc.refl⟩
    have hb := hle i
    by_cases he : D[i] = d
    · refine ⟨_, _, _, rowCna hi (by omega) (by simp) (dipsC_at hi) he (by omega), ?_⟩
      rw [cntD_snoc hi, if_pos he]; exact Gc.refl
    · refine ⟨_, _, _, rowCnb hi (by omega) (by simp) (dipsC_at hi) he (by omega), ?_⟩
      rw [cntD_snoc hi, if_neg he]; exact Gc.refl
  refine Runs.valT (find_nil _) (F := 100) (n := 4) (pr := []) (only (k := 3) lp (fixC_T (find_nil _) (F := 100) (n := 4) (LS := noT) (noLoops (by kernel_rfl)) key)) ?_
  refine (nfCn ..).trans ?_
  exact if_pos (cdec_true.2 ⟨trivial, rfl, rfl⟩)
inductive CnR : List AV → AHeap → AV → AHeap → Prop
  | mk (D : List DipC) (d : DipC) (h : AHeap) (a : AV) (x : List AV) (g : rowDs h a D) (hx : x = d.cells) (hl : D.length ≤ 1000000) (r : Int) (hr : r = (cntD D d : Nat)) : CnR [a, .agg x] h (.int .i64 r) []
theorem kCn : ∀ args h v new, CnR args h v new → ∃ args1 h1, Canons h 0 args args1 h1 ∧ ∃ v1 h1', Runs Try.prog 21 args1 h1 v1 h1' ∧ ∃ ks, Den h1' h1.length h.length ks v1 v new ∧ KsOk ks := by
  intro args h v new hR
  cases hR with
  | mk D d _ a x g hx hl r hr =>
  subst hr hx
  obtain ⟨h1, h2⟩ := runCn (d := d) hl
  exact ⟨_, _, .cons _ _ _ _ _ _ _ (rowDs_canon g 0) (.cons _ _ _ _ _ _ _ (.flat _ _ d.cells_frees) (.nil _)), _, h1, h2, [], .flat _ _ rfl, ksOk0⟩
theorem sCnI : SoundE Try.prog 21 (entF (eRelI CnR)) := relI_sound kCn
theorem cnU {D : List DipC} {d : DipC} {h : AHeap} {a : AV} {x : List AV} (g : rowDs h a D) (hx : x = d.cells) (hl : D.length ≤ 1000000) : CnR [a, .agg x] h (.int .i64 (intC CnR [a, .agg x] h)) [] ∧ intC CnR [a, .agg x] h = (cntD D d : Nat) := by
  have R := CnR.mk D d h a x g hx hl _ rfl
  have e := intC_eq R fun r' R' => by
    cases R' with
    | mk D2 d2 _ _ _ g2 hx2 hl2 _ hr2 =>
    have h1 := dipsC_inj (g2.2.symm.trans g.2)
    have h2 := cells_inj (hx2.symm.trans hx)
    rw [hr2, h1, h2]
  rw [e]
  exact ⟨R, rfl⟩


noncomputable def mvAt (A B : List DipC) (i : Nat) : Bool := !decide (A[i]? = B[i]?)
noncomputable def movN (A B : List DipC) (n : Nat) : Nat := (List.range n).countP (mvAt A B)
noncomputable def movP (A B : List DipC) : Nat := movN A B (max A.length B.length)
theorem movN_succ (A B : List DipC) (n : Nat) : movN A B (n + 1) = movN A B n + if mvAt A B n = true then 1 else 0 := by
  unfold movN; rw [List.range_succ, List.countP_append]; simp [List.countP_cons]
theorem movN_le (A B : List DipC) (n : Nat) : movN A B n ≤ n := by
  have := List.countP_le_length (p := mvAt A B) (l := List.range n)
  simpa [movN] using this
theorem rowMva {A B : List DipC} {n : Int} {i : Nat} {m : Nat} (hi : i < m) (hm : m = max A.length B.length) (hA : A.length ≤ 1000000) (hB : B.length ≤ 1000000) (hne : mvAt A B i = true) (hn : 0 ≤ n ∧ n ≤ 1000000) :
    qround Try.prog [] 100 4 [(12, .bool true), (34, .bool true)] noT MVL mMv (vMv A.length B.length n m i) (hMv (dipsC A) (dipsC B)) = some (.norm, vMv A.length B.length (n + 1) m ((i + 1 : Nat) : Int), hMv (dipsC A) (dipsC B)) := by
  have e5 := wrap1 (i := i) (by omega)
  have e4 : IntKind.i64.wrap (n + 1) = n + 1 := wrapI64 (by omega)
  have e6 : 0 + (i : Int).toNat * 18 = i * 18 := by omega
  refine (nfMva ..).trans ?_
  rw [e6, e5, e4]
  refine (if_pos (by simp; omega)).trans ?_
  by_cases hiA : i < A.length
  · by_cases hiB : i < B.length
    · refine (if_neg (by simp; omega)).trans ?_
      refine (if_neg (by simp; omega)).trans ?_
      rw [dipsC_at hiA, dipsC_at hiB]
      refine (if_pos (by omega)).trans ?_
      refine (if_pos (by rw [dipsC_length]; omega)).trans ?_
      refine (if_pos (by omega)).trans ?_
      refine (if_pos (by rw [dipsC_length]; omega)).trans ?_
      unfold mvAt at hne
      rw [List.getElem?_eq_getElem hiA, List.getElem?_eq_getElem hiB] at hne
      simp only [Option.some.injEq] at hne
      generalize A[i] = x at *
      generalize B[i] = d at *
      obtain ⟨v, b, q, hb⟩ := x
      obtain ⟨v', b', q', hb'⟩ := d
      obtain ⟨a0, a1, a2, a3, a4, a5, a6, a7, a8, a9, a10, a11, a12, a13, a14, a15, rfl⟩ := sixteen hb
      obtain ⟨c0, c1, c2, c3, c4, c5, c6, c7, c8, c9, c10, c11, c12, c13, c14, c15, rfl⟩ := sixteen hb'
      iterate 40 (refine (if_pos (by first | rfl | decide | (simp [DipC.cells]; done))).trans ?_)
      refine (if_pos ?_).trans rfl
      simp only [Bool.not_eq_true', decide_eq_false_iff_not] at hne
      rw [Bool.not_eq_true']
      refine Bool.eq_false_iff.2 fun hc => hne ?_
      simp [DipC.cells, boolV, intV] at hc
      exact DipC.ext' hc.1.1 (by simp [hc]) (by simp [hc])
    · refine (if_neg (by simp; omega)).trans ?_
      exact (if_pos (by simp; omega)).trans rfl
  · exact (if_pos (by simp; omega)).trans rfl
theorem rowMvb {A B : List DipC} {n : Int} {i : Nat} {m : Nat} (hi : i < m) (hm : m = max A.length B.length) (hA : A.length ≤ 1000000) (hB : B.length ≤ 1000000) (hne : mvAt A B i = false) (hn : 0 ≤ n ∧ n ≤ 1000000) :
    qround Try.prog [] 100 4 [(12, .bool true), (34, .bool false)] noT MVL mMv (vMv A.length B.length n m i) (hMv (dipsC A) (dipsC B)) = some (.norm, vMv A.length B.length n m ((i + 1 : Nat) : Int), hMv (dipsC A) (dipsC B)) := by
  have e5 := wrap1 (i := i) (by omega)
  have e4 : IntKind.i64.wrap (n + 1) = n + 1 := wrapI64 (by omega)
  have e6 : 0 + (i : Int).toNat * 18 = i * 18 := by omega
  refine (nfMvb ..).trans ?_
  rw [e6, e5]
  refine (if_pos (by simp; omega)).trans ?_
  by_cases hiA : i < A.length
  · by_cases hiB : i < B.length
    · refine (if_neg (by simp; omega)).trans ?_
      refine (if_neg (by simp; omega)).trans ?_
      rw [dipsC_at hiA, dipsC_at hiB]
      refine (if_pos (by omega)).trans ?_
      refine (if_pos (by rw [dipsC_length]; omega)).trans ?_
      refine (if_pos (by omega)).trans ?_
      refine (if_pos (by rw [dipsC_length]; omega)).trans ?_
      unfold mvAt at hne
      rw [List.getElem?_eq_getElem hiA, List.getElem?_eq_getElem hiB] at hne
      simp only [Option.some.injEq] at hne
      generalize A[i] = x at *
      generalize B[i] = d at *
      obtain ⟨v, b, q, hb⟩ := x
      obtain ⟨v', b', q', hb'⟩ := d
      obtain ⟨a0, a1, a2, a3, a4, a5, a6, a7, a8, a9, a10, a11, a12, a13, a14, a15, rfl⟩ := sixteen hb
      obtain ⟨c0, c1, c2, c3, c4, c5, c6, c7, c8, c9, c10, c11, c12, c13, c14, c15, rfl⟩ := sixteen hb'
      iterate 40 (refine (if_pos (by first | rfl | decide | (simp [DipC.cells]; done))).trans ?_)
      refine (if_pos ?_).trans rfl
      simp only [Bool.not_eq_false', decide_eq_true_eq, DipC.mk.injEq, List.cons.injEq, and_true] at hne
      simp [DipC.cells, boolV, intV, hne]
    · unfold mvAt at hne
      rw [List.getElem?_eq_getElem hiA, List.getElem?_eq_none (by omega)] at hne
      simp at hne
  · unfold mvAt at hne
    rw [List.getElem?_eq_none (l := A) (by omega), List.getElem?_eq_getElem (l := B) (by omega)] at hne
    simp at hne
theorem runMv {A B : List DipC} (hA : A.length ≤ 1000000) (hB : B.length ≤ 1000000) : ∃ h', Runs Try.prog 18 [.sl (some (0, 0)) A.length 0 false, .sl (some (1, 0)) B.length 0 false] (hMv (dipsC A) (dipsC B)) (.int .i64 (movP A B)) h' := by
  have lp : loopsOf (bodyOf Try.prog 18) = [MVL] := by kernel_rfl
  generalize hm : max A.length B.length = m
  have key : True → ∃ n, GReach (roundG Try.prog (deepT Try.prog [] 100 4) (lsT noT) MVL mMv) 2 n (vMv A.length B.length 0 m 0) (hMv (dipsC A) (dipsC B)) (.exit 0) (vMv A.length B.length (movP A B) m m) (hMv (dipsC A) (dipsC B)) := by
    intro _
    refine loop_T (fun i => (vMv A.length B.length (movN A B i) m i, hMv (dipsC A) (dipsC B))) (N := m) (by simp) (fun i hi => ?_) ⟨[(12, .bool false)], _, _, (nfMvs ..).trans (if_pos (by simp)), by unfold movP; rw [hm]; exact Gc.refl⟩
    have hb := movN_le A B i
    by_cases he : mvAt A B i = true
    · refine ⟨_, _, _, rowMva hi hm.symm hA hB he (by omega), ?_⟩
      rw [movN_succ, if_pos he]; exact Gc.refl
    · refine ⟨_, _, _, rowMvb hi hm.symm hA hB (by simpa using he) (by omega), ?_⟩
      rw [movN_succ, if_neg he]; exact Gc.refl
  refine Runs.valT (find_nil _) (F := 100) (n := 4) (pr := []) (only (k := 2) lp (fixC_T (find_nil _) (F := 100) (n := 4) (LS := noT) (noLoops (by kernel_rfl)) key)) ?_
  refine (nfMv ..).trans ?_
  have em : (if true = true then if (B.length : Int) > (A.length : Int) then (B.length : Int) else (A.length : Int) else if (B.length : Int) < (A.length : Int) then (B.length : Int) else (A.length : Int)) = (m : Int) := by
    rw [if_pos rfl]; split <;> omega
  exact if_pos (cdec_true.2 ⟨trivial, by rw [em], rfl⟩)
inductive MvR : List AV → AHeap → AV → AHeap → Prop
  | mk (A B : List DipC) (h : AHeap) (a b : AV) (ga : rowDs h a A) (gb : rowDs h b B) (hA : A.length ≤ 1000000) (hB : B.length ≤ 1000000) (r : Int) (hr : r = (movP A B : Nat)) : MvR [a, b] h (.int .i64 r) []
theorem kMv : ∀ args h v new, MvR args h v new → ∃ args1 h1, Canons h 0 args args1 h1 ∧ ∃ v1 h1', Runs Try.prog 18 args1 h1 v1 h1' ∧ ∃ ks, Den h1' h1.length h.length ks v1 v new ∧ KsOk ks := by
  intro args h v new hR
  cases hR with
  | mk A B _ a b ga gb hA hB r hr =>
  subst hr
  obtain ⟨h1, h2⟩ := runMv hA hB
  exact ⟨_, _, .cons _ _ _ _ _ _ _ (rowDs_canon ga 0) (.cons _ _ _ _ _ _ _ (rowDs_canon gb 1) (.nil _)), _, h1, h2, [], .flat _ _ rfl, ksOk0⟩
theorem sMvI : SoundE Try.prog 18 (entF (eRelI MvR)) := relI_sound kMv
theorem mvU {A B : List DipC} {h : AHeap} {a b : AV} (ga : rowDs h a A) (gb : rowDs h b B) (hA : A.length ≤ 1000000) (hB : B.length ≤ 1000000) : MvR [a, b] h (.int .i64 (intC MvR [a, b] h)) [] ∧ intC MvR [a, b] h = (movP A B : Nat) := by
  have R := MvR.mk A B h a b ga gb hA hB _ rfl
  have e := intC_eq R fun r' R' => by
    cases R' with
    | mk A2 B2 _ _ _ ga2 gb2 hA2 hB2 _ hr2 =>
    have h1 := dipsC_inj (ga2.2.symm.trans ga.2)
    have h2 := dipsC_inj (gb2.2.symm.trans gb.2)
    rw [hr2, h1, h2]
  rw [e]
  exact ⟨R, rfl⟩


def svN (W : List Int) (v : Bool) (n : Nat) : PL := (List.range n).map fun i : Nat => (dipN v i, 1 + W.getD i 0 % 16)
def svP (W : List Int) (v : Bool) : PL := svN W v (min W.length 32)
@[simp] theorem svN_len (W : List Int) (v : Bool) (n : Nat) : (svN W v n).length = n := by simp [svN]
theorem svN_succ (W : List Int) (v : Bool) (n : Nat) : svN W v (n + 1) = svN W v n ++ [(dipN v n, 1 + W.getD n 0 % 16)] := by simp [svN, List.range_succ]
theorem svN_get (W : List Int) (v : Bool) {n i : Nat} (hi : i < n) : (svN W v n)[i]'(by simpa using hi) = (dipN v i, 1 + W.getD i 0 % 16) := by simp [svN]
theorem stepSv {W : List Int} {v : Bool} {i : Nat} (hi : i < W.length) (h32 : i < 32) :
    ∃ vs1 h1, qround Try.prog tSv 100 4 [(14, .bool true)] noT SVL mSv (vSv W.length i v i) (hSv (intL W) (itP (svN W v i))) = some (.norm, vs1, h1) ∧ Gc 1 vs1 h1 (vSv W.length (i + 1) v ((i + 1 : Nat) : Int)) (hSv (intL W) (itP (svN W v (i + 1)))) := by
  have e1 : opq cellsN v (i : Int) = (dipN v i).cells := by rw [opq_eq]; rfl
  have e2 : intV (some (.int .i64 W[i])) = W[i] := rfl
  have e3 : IntKind.i64.wrap (1 + W[i] % 16) = 1 + W[i] % 16 := wrapI64 (by omega)
  have e5 := wrap1 (i := i) (by omega)
  have eW : W.getD i 0 = W[i] := by rw [List.getD_eq_getElem?_getD, List.getElem?_eq_getElem hi, Option.getD_some]
  have eC : List.take (i * 19) (itP (svN W v i)) ++ illC (dipN v i) (1 + W[i] % 16) = itP (svN W v (i + 1)) := by
    rw [List.take_of_length_le (by simp), svN_succ, itP_append, eW]; simp [itP]
  have hlen := itP_length (svN W v i)
  rw [svN_len] at hlen
  have row : qround Try.prog tSv 100 4 [(14, .bool true)] noT SVL mSv (vSv W.length i v i) (hSv (intL W) (itP (svN W v i))) = some (.norm, [.sl (some (0, 0)) W.length 0 false, .bool v, .sl (some (3, 0)) (i + 1) 0 false, .int .i64 ((i + 1 : Nat) : Int)], [.cells (intL W) 1 .far none, .cells (itP (svN W v i)) 19 .ro none, .cells (illC (dipN v i) (1 + W[i] % 16)) 19 .own none, .cells (itP (svN W v (i + 1))) 19 .own (some 1)]) := by
    refine (nfSva ..).trans ?_
    unfold hSva0
    simp only [e1, intL_at hi, e2, e3, e5, putA, putB, putC, takeC, eC]
    refine (if_pos (by simp; omega)).trans ?_
    refine (if_pos (by simp; omega)).trans ?_
    refine (if_pos (by omega)).trans ?_
    refine (if_pos rfl).trans ?_
    repeat (first | (refine (if_pos ?_).trans ?_; · first | (simp; done) | (simp; omega) | exact ⟨trivial, by omega, .inl (by decide), trivial, illC_cell _ _⟩ | rfl))
    rfl
  refine ⟨_, _, row, ?_⟩
  unfold vSv hSv
  exact Gc.by [0, 3] rfl (by decide) (.cons _ _ _ _ (.sl _ _ _ _ _ _ rfl) (.cons _ _ _ _ (.free _ rfl) (.cons _ _ _ _ (.sl _ _ _ _ _ _ rfl) (.free _ rfl))))
    (.cons _ _ _ _ _ rfl (.row (frees_ints _) (by simp)) (.cons _ _ _ _ _ rfl (.row (itP_frees _) (by intro p j h; injection h with h; subst h; exact nofun)) .nil))
theorem runSv {W : List Int} {v : Bool} : Runs Try.prog 20 [.sl (some (0, 0)) W.length 0 false, .bool v] [.cells (intL W) 1 .far none] (.sl (some (1, 0)) (min W.length 32) 0 false) [.cells (intL W) 1 .far none, .cells (itP (svP W v)) 19 .own none] := by
  have lp : loopsOf (bodyOf Try.prog 20) = [SVL] := by kernel_rfl
  generalize hN : min W.length 32 = N
  have key : True → ∃ vs2 h2, Pre 1 (vSvz W.length v) [.cells (intL W) 1 .far none] vs2 h2 ∧ ∃ n, GReach (roundG Try.prog (deepT Try.prog tSv 100 4) (lsT noT) SVL mSv) 1 n vs2 h2 (.exit 0) (vSv W.length N v N) (hSv (intL W) (itP (svP W v))) := by
    intro _
    refine ⟨_, _, Pre.nil1 19 (.same _ _ _ (.same _ _ _ (.void _ _ _ (NRs.refl _)))) rfl, ?_⟩
    refine loop_T (fun i => (vSv W.length i v i, hSv (intL W) (itP (svN W v i)))) (N := N) (by simp) (fun i hi => ⟨_, stepSv (by omega) (by omega)⟩) ⟨[(14, .bool false)], _, _, (nfSvs ..).trans ?_, Gc.refl⟩
    unfold svP
    rw [hN]
    by_cases h1 : N < W.length
    · exact (if_pos (by simp; omega)).trans (if_pos (by simp; omega))
    · exact if_neg (by simp; omega)
  refine Runs.ofT tSvOk (F := 100) (n := 4) (pr := []) (only (k := 3) lp (fixP_T tSvOk (F := 100) (n := 4) (LS := noT) (noLoops (by kernel_rfl)) key)) ?_
  refine (nfSv ..).trans ?_
  exact if_pos (cdec_true.2 ⟨trivial, rfl, rfl⟩)
inductive SvR : List AV → AHeap → AV → AHeap → Prop
  | mk (W : List Int) (v : Bool) (h : AHeap) (a : AV) (g : rowI h a W) (P : PL) (k : Nat) (hP : svP W v = P) (hk : k = P.length) : SvR [a, .bool v] h (.sl (some (h.length, 0)) k 0 false) [.cells (itP P) 19 .own none]
theorem kSv : ∀ args h v new, SvR args h v new → ∃ args1 h1, Canons h 0 args args1 h1 ∧ ∃ v1 h1', Runs Try.prog 20 args1 h1 v1 h1' ∧ ∃ ks, Den h1' h1.length h.length ks v1 v new ∧ KsOk ks := by
  intro args h v new hR
  cases hR with
  | mk W v _ a g P k hP hk =>
  subst hP hk
  have hl : (svP W v).length = min W.length 32 := by simp [svP]
  refine ⟨_, _, .cons _ _ _ _ _ _ _ (rowI_canon g 0) (.cons _ _ _ _ _ _ _ (.flat _ _ rfl) (.nil _)), _, _, runSv, [some 1], ?_, ksOk1 _⟩
  by_cases h0 : min W.length 32 = 0
  · rw [hl, h0]
    have e : itP (svP W v) = [] := by unfold svP; rw [h0]; rfl
    rw [e]
    exact Den.row (h1 := [.cells (intL W) 1 .far none, .cells [] 19 .own none]) (n0 := 1) h.length 1 0 0 0 false [] 19 none (by decide) (by decide) rfl ⟨by decide, by decide⟩ (fun _ => ⟨rfl, rfl⟩) rfl
  · have hd := Den.row (h1 := [.cells (intL W) 1 .far none, .cells (itP (svP W v)) 19 .own none]) (n0 := 1) h.length 1 0 (min W.length 32) 0 false (itP (svP W v)) 19 none (by decide) (by decide) rfl ⟨by simp [capOf], by rw [itP_length, hl]; simp [capOf]⟩ (by intro h; exact absurd h h0) (by rw [List.drop_zero, List.take_of_length_le (by rw [itP_length, hl]; omega)]; exact itP_frees _)
    rw [List.drop_zero, List.take_of_length_le (by rw [itP_length, hl]; omega)] at hd
    rw [hl]
    exact hd
theorem sSv (L : List (Nat × AV × AHeap)) : SoundE Try.prog 20 (entF (eRel SvR L)) := relR_sound kSv L

end Go.Proofs.Ytlppbeoiphglcaa.L
