/- slots.Check: its contract. -/
import Derived.Test.YtlppbeoiphglcaaCkN
set_option autoImplicit false
set_option maxRecDepth 100000
set_option linter.unusedVariables false
set_option linter.unusedSimpArgs false
namespace Go.Proofs.Ytlppbeoiphglcaa.L
open Go Go.Abs

abbrev _root_.Go.Abs.DipC.key (d : DipC) : AV := .agg d.cells
def _root_.Go.Abs.DipC.ok (d : DipC) : Bool := adrValid (d.cells.take 17)
noncomputable instance : DecidableEq DipC := fun a b => Classical.propDecidable (a = b)
theorem eq_dipL (v : Bool) (a0 a1 a2 a3 a4 a5 a6 a7 a8 a9 a10 a11 a12 a13 a14 a15 p : Int) (w : Bool) (c0 c1 c2 c3 c4 c5 c6 c7 c8 c9 c10 c11 c12 c13 c14 c15 q : Int) :
    aeqIn Try.prog 10000 45 (.agg [.bool v, .int .u8 a0, .int .u8 a1, .int .u8 a2, .int .u8 a3, .int .u8 a4, .int .u8 a5, .int .u8 a6, .int .u8 a7, .int .u8 a8, .int .u8 a9, .int .u8 a10, .int .u8 a11, .int .u8 a12, .int .u8 a13, .int .u8 a14, .int .u8 a15, .int .u16 p]) (.agg [.bool w, .int .u8 c0, .int .u8 c1, .int .u8 c2, .int .u8 c3, .int .u8 c4, .int .u8 c5, .int .u8 c6, .int .u8 c7, .int .u8 c8, .int .u8 c9, .int .u8 c10, .int .u8 c11, .int .u8 c12, .int .u8 c13, .int .u8 c14, .int .u8 c15, .int .u16 q]) =
    some (((v == w) && (((a0 == c0) && ((a1 == c1) && ((a2 == c2) && ((a3 == c3) && ((a4 == c4) && ((a5 == c5) && ((a6 == c6) && ((a7 == c7) && ((a8 == c8) && ((a9 == c9) && ((a10 == c10) && ((a11 == c11) && ((a12 == c12) && ((a13 == c13) && ((a14 == c14) && ((a15 == c15) && true)))))))))))))))) && true)) && ((p == q) && true)) := by
  kernel_rfl
theorem eq_dip (d e : DipC) : aeqIn Try.prog 10000 45 (.agg d.cells) (.agg e.cells) = some (decide (d = e)) := by
  obtain ⟨v, a, p, ha⟩ := d
  obtain ⟨w, c, q, hc⟩ := e
  obtain ⟨a0, a1, a2, a3, a4, a5, a6, a7, a8, a9, a10, a11, a12, a13, a14, a15, rfl⟩ := sixteen ha
  obtain ⟨c0, c1, c2, c3, c4, c5, c6, c7, c8, c9, c10, c11, c12, c13, c14, c15, rfl⟩ := sixteen hc
  refine (eq_dipL _ _ _ _ _ _ _ _ _ _ _ _ _ _ _ _ _ _ _ _ _ _ _ _ _ _ _ _ _ _ _ _ _ _ _ _).trans ?_
  congr 1
  rw [Bool.eq_iff_iff]
  simp only [Bool.and_eq_true, beq_iff_eq, decide_eq_true_eq, DipC.mk.injEq, List.cons.injEq, and_true]
  constructor <;> intro h <;> simp [h]
theorem ok_dipL (v : Bool) (a0 a1 a2 a3 a4 a5 a6 a7 a8 a9 a10 a11 a12 a13 a14 a15 p : Int) : akeyOk Try.prog 10000 45 (.agg [.bool v, .int .u8 a0, .int .u8 a1, .int .u8 a2, .int .u8 a3, .int .u8 a4, .int .u8 a5, .int .u8 a6, .int .u8 a7, .int .u8 a8, .int .u8 a9, .int .u8 a10, .int .u8 a11, .int .u8 a12, .int .u8 a13, .int .u8 a14, .int .u8 a15, .int .u16 p]) = true := by
  kernel_rfl
theorem ok_dip (d : DipC) : akeyOk Try.prog 10000 45 (.agg d.cells) = true := by
  obtain ⟨v, a, p, ha⟩ := d
  obtain ⟨a0, a1, a2, a3, a4, a5, a6, a7, a8, a9, a10, a11, a12, a13, a14, a15, rfl⟩ := sixteen ha
  exact ok_dipL _ _ _ _ _ _ _ _ _ _ _ _ _ _ _ _ _ _


def esB : List DipC → Nat → List (AV × AV × Nat)
  | [], _ => []
  | d :: K, j => (.agg d.cells, .bool true, j) :: esB K (j + 1)
theorem esB_snoc : ∀ (K : List DipC) (d : DipC) (j : Nat), esB (K ++ [d]) j = esB K j ++ [(.agg d.cells, .bool true, j + K.length)]
  | [], _, _ => rfl
  | x :: K, d, j => by
    show _ :: esB (K ++ [d]) (j + 1) = _ :: (esB K (j + 1) ++ _)
    rw [esB_snoc K d (j + 1)]; simp; omega
theorem afind_no : ∀ (K : List DipC) (d : DipC) (i j : Nat), d ∉ K → afind Try.prog 45 (.agg d.cells) (esB K j) i = some none
  | [], _, _, _, _ => rfl
  | x :: K, d, i, j, h => by
    show (aeqIn Try.prog 10000 45 (.agg d.cells) (.agg x.cells)).bind _ = _
    rw [eq_dip, decide_eq_false (by rintro rfl; exact h (by simp))]
    simp only [Option.bind_some, if_neg Bool.false_ne_true]
    exact afind_no K d _ _ fun hm => h (by simp [hm])
theorem afind_yes : ∀ (K : List DipC) (d : DipC) (i j : Nat), d ∈ K → ∃ p, afind Try.prog 45 (.agg d.cells) (esB K j) i = some (some (p, .bool true))
  | [], _, _, _, h => by simp at h
  | x :: K, d, i, j, h => by
    by_cases hx : d = x
    · refine ⟨i, ?_⟩
      show (aeqIn Try.prog 10000 45 (.agg d.cells) (.agg x.cells)).bind _ = _
      rw [eq_dip, decide_eq_true hx]; rfl
    · obtain ⟨p, hp⟩ := afind_yes K d (i + 1) (j + 1) (by rcases List.mem_cons.1 h with h | h; exact absurd h hx; exact h)
      refine ⟨p, ?_⟩
      show (aeqIn Try.prog 10000 45 (.agg d.cells) (.agg x.cells)).bind _ = _
      rw [eq_dip, decide_eq_false hx]
      simp only [Option.bind_some, if_neg Bool.false_ne_true]
      exact hp
theorem mtB : ∃ et, mapTypes Try.prog 57 = some (45, et) ∧ zeroA Try.prog et = some (.bool false) := ⟨4, by kernel_rfl, by kernel_rfl⟩
theorem look_B {h : AHeap} {c : Nat} {s : Bool} {d : DipC} {K : List DipC} (hr : h[1]? = some (.mp (esB K 0) c s)) : alookup0 Try.prog h 57 (.map (some 1)) (.agg d.cells) false = some (.bool (decide (d ∈ K))) := by
  obtain ⟨et, ht, hz⟩ := mtB
  unfold alookup0
  simp only [ht, mapList, entriesAt, hr, Option.map_some, Option.bind_some, ok_dip, if_true]
  by_cases hd : d ∈ K
  · obtain ⟨p, hp⟩ := afind_yes K d 0 0 hd
    rw [hp, decide_eq_true hd]; simp
  · rw [afind_no K d 0 0 hd, decide_eq_false hd]; simp [hz]
theorem upd_B {h : AHeap} {c : Nat} {s : Bool} {d : DipC} {K : List DipC} (hr : h[1]? = some (.mp (esB K 0) c s)) (hd : d ∉ K) (hc : c = K.length) : amapUpdate0 Try.prog h 57 (.map (some 1)) (.agg d.cells) (.bool true) = some (h.set 1 (.mp (esB (K ++ [d]) 0) (c + 1) false)) := by
  obtain ⟨et, ht, hz⟩ := mtB
  unfold amapUpdate0 aenter
  simp only [ht, entriesAt, hr, ok_dip, if_true, Option.bind_some, afind_no K d 0 0 hd]
  rw [esB_snoc, Nat.zero_add, ← hc]
  simp


def mOk (p : DipC × Int) : Bool := p.1.ok && decide (1 ≤ p.2) && decide (p.2 ≤ 16)
def fstD (P : PL) : List DipC := P.map Prod.fst
noncomputable def badAt (P : PL) (i : Nat) : Bool := match P[i]? with
  | some p => !mOk p || decide (p.1 ∈ fstD (P.take i))
  | none => false
noncomputable def firstBad (P : PL) : Nat := (List.range P.length).findIdx fun i => badAt P i
noncomputable def chkP (P : PL) : Int := if 32 < P.length then 1 else if firstBad P < P.length then 1 else 0
theorem firstBad_bad {P : PL} (h : firstBad P < P.length) : badAt P (firstBad P) = true := by
  have h' : firstBad P < (List.range P.length).length := by simpa using h
  have := List.findIdx_getElem (p := fun i => badAt P i) (xs := List.range P.length) (w := h')
  have e : (List.range P.length)[(List.range P.length).findIdx fun i => badAt P i]'h' = (List.range P.length).findIdx fun i => badAt P i := List.getElem_range _
  rw [e] at this
  exact this
theorem firstBad_not {P : PL} {i : Nat} (hi : i < P.length) (h : i < firstBad P) : badAt P i = false := by
  have := List.not_of_lt_findIdx (p := fun i => badAt P i) (xs := List.range P.length) h
  simpa using this
theorem badAt_some {P : PL} {i : Nat} (hi : i < P.length) : badAt P i = (!mOk P[i] || decide (P[i].1 ∈ fstD (P.take i))) := by
  unfold badAt; rw [List.getElem?_eq_getElem hi]

theorem fstD_take {P : PL} {i : Nat} (hi : i < P.length) : fstD (P.take (i + 1)) = fstD (P.take i) ++ [P[i].1] := by
  unfold fstD; rw [take_snoc hi, List.map_append]; rfl
theorem fstD_len (P : PL) (i : Nat) (hi : i ≤ P.length) : (fstD (P.take i)).length = i := by unfold fstD; simp; omega
noncomputable def ckSt (P : PL) (i : Nat) : List AV × AHeap := (vCk 0 P.length i, hCk (itP P) (esB (fstD (P.take i)) 0) i)
theorem esB_free : ∀ (K : List DipC) (j : Nat), ∀ e ∈ esB K j, e.1.free = true ∧ e.2.1.free = true
  | [], _, e, h => by simp [esB] at h
  | d :: K, j, e, h => by
    rcases List.mem_cons.1 h with rfl | h
    · exact ⟨d.cells_frees, rfl⟩
    · exact esB_free K (j + 1) e h
theorem illC_take17 (x : DipC) (v : Int) : List.take 17 (illC x v) = List.take 17 x.cells := by unfold illC; exact List.take_append_of_le_length (by simp)
theorem illC_take18 (x : DipC) (v : Int) : List.take 18 (illC x v) = x.cells := by unfold illC; exact List.take_left' (by simp)
theorem illC_18 (x : DipC) (v : Int) : (illC x v)[18]? = some (.int .i64 v) := by unfold illC; rw [List.getElem?_append_right (by simp)]; simp
theorem lookB {x : Option AV} {b : Bool} (h : x = some (.bool b)) : x = some (.bool (opq (boolV x))) ∧ opq (boolV x) = b := by
  subst h; rw [opq_eq]; exact ⟨rfl, rfl⟩
theorem stepCk {P : PL} {i : Nat} (hl : P.length ≤ 1000) (hi : i < P.length) (hb : badAt P i = false) :
    ∃ vs1 h1, qround Try.prog tCk 100 4 [(13, .bool true), (36, .bool false)] noT CKL mCk (ckSt P i).1 (ckSt P i).2 = some (.norm, vs1, h1) ∧ Gc 2 vs1 h1 (ckSt P (i + 1)).1 (ckSt P (i + 1)).2 := by
  have e2 : 0 + (i : Int).toNat * 19 = i * 19 := by omega
  have e5 := wrap1 (i := i) (by omega)
  have x19 := itP_19 hi
  rw [badAt_some hi, Bool.or_eq_false_iff] at hb
  obtain ⟨hm, hk⟩ := hb
  have hk : P[i].1 ∉ fstD (P.take i) := by simpa using hk
  simp only [mOk, Bool.not_eq_false', Bool.and_eq_true, decide_eq_true_eq] at hm
  obtain ⟨⟨m1, m2⟩, m3⟩ := hm
  have hf := fstD_take hi
  have hfl := fstD_len P i (by omega)
  have A := lookB (look_B (h := hCka0 (itP P) (esB (fstD (P.take i)) 0) i P.length i) (d := P[i].1) (K := fstD (P.take i)) (c := i) (s := true) rfl)
  have U := upd_B (h := hCka0 (itP P) (esB (fstD (P.take i)) 0) i P.length i) (d := P[i].1) (K := fstD (P.take i)) (c := i) (s := true) rfl hk hfl.symm
  rw [decide_eq_false hk] at A
  have hX : esOf 1 (amapUpdate0 Try.prog (hCka0 (itP P) (esB (fstD (P.take i)) 0) i P.length i) 57 (.map (some 1)) (.agg P[i].1.cells) (.bool true)) = esB (fstD (P.take i) ++ [P[i].1]) 0 := by rw [U]; rfl
  have hY : ckOf 1 (amapUpdate0 Try.prog (hCka0 (itP P) (esB (fstD (P.take i)) 0) i P.length i) 57 (.map (some 1)) (.agg P[i].1.cells) (.bool true)) = i + 1 := by rw [U]; rfl
  have row : qround Try.prog tCk 100 4 [(13, .bool true), (36, .bool false)] noT CKL mCk (ckSt P i).1 (ckSt P i).2 = some (.norm, vCk 0 P.length ((i + 1 : Nat) : Int), hCka2 (itP P) (esB (fstD (P.take i)) 0) i P.length i) := by
    refine (nfCka ..).trans ?_
    rw [e2, x19, putC, illC_take17, illC_take18, illC_18, e5]
    refine (if_pos (by simp; omega)).trans ?_
    refine (if_pos (by omega)).trans ?_
    refine (if_pos (by rw [itP_length]; omega)).trans ?_
    refine (if_pos (by simp)).trans ?_
    refine (if_pos ⟨by simp, illC_cell _ _⟩).trans ?_
    refine (if_pos (by simp)).trans ?_
    refine (if_pos (cdec_true.2 (.mk P[i].1 _ rfl))).trans ?_
    refine (if_neg (by rw [opq_eq]; show ¬ (!P[i].1.ok) = true; rw [m1]; decide)).trans ?_
    refine (if_pos (by simp)).trans ?_
    refine (if_pos (cdec_true.2 A.1)).trans ?_
    refine (if_neg (by rw [A.2]; decide)).trans ?_
    refine (if_pos rfl).trans ?_
    refine (if_neg (by show ¬ decide (P[i].2 < 1) = true; simp; omega)).trans ?_
    refine (if_pos rfl).trans ?_
    refine (if_pos (by show decide (P[i].2 > 16) = false; simp; omega)).trans ?_
    refine (if_pos (by simp)).trans ?_
    refine (if_pos (cdec_true.2 (by unfold hCka1; rw [e2, x19, putC, illC_take18, opq_eq, opq_eq, hX, hY, U]; unfold hCka0; rw [e2, x19, putC]; rfl))).trans ?_
    rfl
  refine ⟨_, _, row, ?_⟩
  unfold hCka2
  rw [e2, x19, putC, illC_take18, opq_eq, opq_eq, hX, hY]
  unfold ckSt
  rw [hf]
  exact Gc.by [0, 1] rfl (by decide) (.cons _ _ _ _ (.free _ rfl) (.cons _ _ _ _ (.map _ _ rfl) (.cons _ _ _ _ (.sl _ _ _ _ _ _ rfl) (.free _ rfl)))) (.cons _ _ _ _ _ rfl (.row (itP_frees _) (by simp)) (.cons _ _ _ _ _ rfl (.mp _ _ _ _ _ (.free _ (esB_free _ _))) .nil))
theorem stopCk {P : PL} {i : Nat} (hl : P.length ≤ 1000) (hi : i < P.length) (hb : badAt P i = true) :
    ∃ vs1 h1, qround Try.prog tCk 100 4 [(13, .bool true), (36, .bool true)] noT CKL mCk (ckSt P i).1 (ckSt P i).2 = some (.ret, vs1, h1) ∧ Gc 2 vs1 h1 (vCk 1 P.length i) (ckSt P i).2 := by
  have e2 : 0 + (i : Int).toNat * 19 = i * 19 := by omega
  have x19 := itP_19 hi
  rw [badAt_some hi] at hb
  have A := lookB (look_B (h := hCkb0 (itP P) (esB (fstD (P.take i)) 0) i P.length i) (d := P[i].1) (K := fstD (P.take i)) (c := i) (s := true) rfl)
  have row : qround Try.prog tCk 100 4 [(13, .bool true), (36, .bool true)] noT CKL mCk (ckSt P i).1 (ckSt P i).2 = some (.ret, vCk 1 P.length i, hCkb0 (itP P) (esB (fstD (P.take i)) 0) i P.length i) := by
    refine (nfCkb ..).trans ?_
    rw [e2, x19, putC, illC_take17, illC_take18, illC_18]
    refine (if_pos (by simp; omega)).trans ?_
    refine (if_pos (by omega)).trans ?_
    refine (if_pos (by rw [itP_length]; omega)).trans ?_
    refine (if_pos (by simp)).trans ?_
    refine (if_pos ⟨by simp, illC_cell _ _⟩).trans ?_
    refine (if_pos (by simp)).trans ?_
    refine (if_pos (cdec_true.2 (.mk P[i].1 _ rfl))).trans ?_
    cases m1 : P[i].1.ok
    · exact if_pos (by rw [opq_eq]; show (!P[i].1.ok) = true; rw [m1]; rfl)
    refine (if_neg (by rw [opq_eq]; show ¬ (!P[i].1.ok) = true; rw [m1]; decide)).trans ?_
    refine (if_pos (by simp)).trans ?_
    refine (if_pos (cdec_true.2 A.1)).trans ?_
    by_cases hk : P[i].1 ∈ fstD (P.take i)
    · exact if_pos (by rw [A.2]; exact decide_eq_true hk)
    refine (if_neg (by rw [A.2]; simpa using hk)).trans ?_
    refine (if_pos rfl).trans ?_
    by_cases h1 : P[i].2 < 1
    · exact if_pos (decide_eq_true h1)
    refine (if_neg (by show ¬ decide (P[i].2 < 1) = true; simpa using h1)).trans ?_
    refine (if_pos rfl).trans ?_
    refine if_pos ?_
    simp only [mOk, m1, decide_eq_false hk, Bool.or_false, Bool.true_and, Bool.not_eq_true', Bool.and_eq_false_iff, decide_eq_false_iff_not] at hb
    show decide (P[i].2 > 16) = true
    simp only [decide_eq_true_eq]
    omega
  refine ⟨_, _, row, ?_⟩
  exact Gc.drop (h := (ckSt P i).2) (X := [_]) 2 rfl rfl (by
    intro b hb
    simp only [ckSt, hCk, List.mem_cons, List.not_mem_nil, or_false] at hb
    rcases hb with rfl | rfl
    · exact okU_free (itP_frees _) (by simp)
    · exact esB_free _ _)
theorem runCk (P : PL) : ∃ h', Runs Try.prog 12 [.sl (some (0, 0)) P.length 0 false] [.cells (itP P) 19 .far none] (.int .i64 (chkP P)) h' := by
  by_cases hl : 32 < P.length
  · have e : chkP P = 1 := by unfold chkP; rw [if_pos hl]
    rw [e]
    exact Runs.valT0 tCkOk (F := 100) (n := 4) (pr := [(8, .bool true)]) ((nfCkl ..).trans (if_pos (by simp; omega)))
  have lp : loopsOf (bodyOf Try.prog 12) = [CKL] := by kernel_rfl
  have pre : Pre 2 (vCk 0 P.length 0) [.cells (itP P) 19 .far none, .mp [] 0 false] (ckSt P 0).1 (ckSt P 0).2 :=
    .gc _ _ _ _ _ _ (Gc.by [0, 1] rfl (by decide) (.cons _ _ _ _ (.free _ rfl) (.cons _ _ _ _ (.map _ _ rfl) (.cons _ _ _ _ (.sl _ _ _ _ _ _ rfl) (.free _ rfl)))) (.cons _ _ _ _ _ rfl (.row (itP_frees _) (by simp)) (.cons _ _ _ _ _ rfl (.mp _ _ _ _ _ .nil) .nil))) (.done _ _)
  by_cases hb : firstBad P < P.length
  · have e : chkP P = 1 := by unfold chkP; rw [if_neg hl, if_pos hb]
    rw [e]
    have key : True → ∃ vs2 h2, Pre 2 (vCk 0 P.length 0) [.cells (itP P) 19 .far none, .mp [] 0 false] vs2 h2 ∧ ∃ k, GReach (roundG Try.prog (deepT Try.prog tCk 100 4) (lsT noT) CKL mCk) 2 k vs2 h2 .ret (vCk 1 P.length (firstBad P)) (hCk (itP P) (esB (fstD (P.take (firstBad P))) 0) (firstBad P)) := by
      intro _
      obtain ⟨vs1, h1, hr, hg⟩ := stopCk (i := firstBad P) (by omega) hb (firstBad_bad hb)
      exact ⟨_, _, pre, loop_T (ckSt P) (N := firstBad P) (by simp) (fun i hi => ⟨_, stepCk (by omega) (by omega) (firstBad_not (by omega) hi)⟩) ⟨_, _, _, hr, hg⟩⟩
    refine Runs.valT tCkOk (F := 100) (n := 4) (pr := [(8, .bool false)]) (only (k := 5) lp (fixP_T tCkOk (F := 100) (n := 4) (LS := noT) (noLoops (by kernel_rfl)) key)) ?_
    refine (nfCkr True ..).trans ?_
    refine (if_pos (by simp; omega)).trans ?_
    exact if_pos (cdec_true.2 ⟨trivial, rfl, rfl⟩)
  · have e : chkP P = 0 := by unfold chkP; rw [if_neg hl, if_neg hb]
    rw [e]
    have key : True → ∃ vs2 h2, Pre 2 (vCk 0 P.length 0) [.cells (itP P) 19 .far none, .mp [] 0 false] vs2 h2 ∧ ∃ k, GReach (roundG Try.prog (deepT Try.prog tCk 100 4) (lsT noT) CKL mCk) 2 k vs2 h2 (.exit 0) (vCk 0 P.length P.length) (hCk (itP P) (esB (fstD (P.take P.length)) 0) P.length) := by
      intro _
      exact ⟨_, _, pre, loop_T (ckSt P) (N := P.length) (by simp) (fun i hi => ⟨_, stepCk (by omega) hi (firstBad_not hi (by omega))⟩) ⟨[(13, .bool false)], _, _, (nfCks ..).trans (if_pos (by simp)), Gc.refl⟩⟩
    refine Runs.valT tCkOk (F := 100) (n := 4) (pr := [(8, .bool false)]) (only (k := 5) lp (fixP_T tCkOk (F := 100) (n := 4) (LS := noT) (noLoops (by kernel_rfl)) key)) ?_
    refine (nfCke True ..).trans ?_
    refine (if_pos (by simp; omega)).trans ?_
    exact if_pos (cdec_true.2 ⟨trivial, rfl, rfl⟩)

def rowP (h : AHeap) (a : AV) (P : PL) : Prop := rowOk h a 19 = true ∧ rowOf h a = itP P
theorem rowP_len {h : AHeap} {a : AV} {P : PL} (g : rowP h a P) : nOf a = P.length := by
  have := rowLen g.1
  rw [g.2, itP_length] at this
  omega
theorem rowP_canon {h : AHeap} {a : AV} {P : PL} (g : rowP h a P) (n : Nat) : Canon h n a (.sl (some (n, 0)) P.length 0 false) [.cells (itP P) 19 .far none] := by
  have := rowCanon g.1 g.2 (itP_frees _) n
  rwa [rowP_len g] at this
theorem rowP_blk {h : AHeap} {k n r : Nat} {e : Bool} {md : Md} {par : Option Nat} {P : PL} (hk : h[k]? = some (.cells (itP P) 19 md par)) (hn : n = P.length) : rowP h (.sl (some (k, 0)) n r e) P := by
  subst hn
  constructor
  · simp [rowOk, hk]
  · simp only [rowOf, hk, List.drop_zero]; exact List.take_of_length_le (by simp)
inductive CkR : List AV → AHeap → AV → AHeap → Prop
  | mk (P : PL) (h : AHeap) (a : AV) (g : rowP h a P) (r : Int) (hr : chkP P = r) : CkR [a] h (.int .i64 r) []
theorem kCk : ∀ args h v new, CkR args h v new → ∃ args1 h1, Canons h 0 args args1 h1 ∧ ∃ v1 h1', Runs Try.prog 12 args1 h1 v1 h1' ∧ ∃ ks, Den h1' h1.length h.length ks v1 v new ∧ KsOk ks := by
  intro args h v new hR
  cases hR with
  | mk P _ a g r hr =>
  subst hr
  obtain ⟨h1, h2⟩ := runCk P
  exact ⟨_, _, .cons _ _ _ _ _ _ _ (rowP_canon g 0) (.nil _), _, h1, h2, [], .flat _ _ rfl, ksOk0⟩
end Go.Proofs.Ytlppbeoiphglcaa.L
