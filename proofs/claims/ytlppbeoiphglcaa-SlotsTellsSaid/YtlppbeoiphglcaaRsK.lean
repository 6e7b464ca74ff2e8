/- The references: place, Members, Moved; Dips, few: their contracts. -/
import Derived.Test.YtlppbeoiphglcaaRsN
import Derived.Test.YtlppbeoiphglcaaFlT
set_option autoImplicit false
set_option maxRecDepth 100000
set_option linter.unusedVariables false
set_option linter.unusedSimpArgs false
namespace Go.Proofs.Ytlppbeoiphglcaa.L
open Go Go.Abs

theorem itP_17 {P : PL} {i : Nat} (hi : i < P.length) : List.take 17 (List.drop (i * 19) (itP P)) = List.take 17 P[i].1.cells := by
  have h := itP_19 hi
  have : List.take 17 (List.take 19 (List.drop (i * 19) (itP P))) = List.take 17 (List.drop (i * 19) (itP P)) := by rw [List.take_take]; rfl
  rw [← this, h, illC_take17]


theorem rowPla {P : PL} {d : DipC} {i : Nat} (hi : i < P.length) (hk : P.length ≤ 1000000) (hne : P[i].1 ≠ d) :
    qround Try.prog [] 100 4 [(9, .bool true), (18, .bool false)] noT PLL mPl (vPl P.length 0 i) (hPl (itP P) d.cells) = some (.norm, vPl P.length 0 ((i + 1 : Nat) : Int), hPl (itP P) d.cells) := by
  have e5 := wrap1 (i := i) (by omega)
  have e7 : 0 + (i : Int).toNat * 19 + 0 = i * 19 := by omega
  have hlP := itP_length P
  refine (nfPla ..).trans ?_
  rw [e7, itP_18 hi, e5]
  refine (if_pos (by simp; omega)).trans ?_
  refine (if_pos (by omega)).trans ?_
  refine (if_pos (by omega)).trans ?_
  refine (if_pos (by simp)).trans ?_
  generalize P[i].1 = x at *
  obtain ⟨v, b, q, hb⟩ := x
  obtain ⟨v', b', q', hb'⟩ := d
  obtain ⟨a0, a1, a2, a3, a4, a5, a6, a7, a8, a9, a10, a11, a12, a13, a14, a15, rfl⟩ := sixteen hb
  obtain ⟨c0, c1, c2, c3, c4, c5, c6, c7, c8, c9, c10, c11, c12, c13, c14, c15, rfl⟩ := sixteen hb'
  iterate 40 (refine (if_pos (by first | rfl | decide | (simp [DipC.cells]; done))).trans ?_)
  refine (if_pos (Bool.eq_false_iff.2 fun hc => hne ?_)).trans ?_
  · simp [DipC.cells, boolV, intV] at hc
    exact DipC.ext' hc.1.1 (by simp [hc]) (by simp [hc])
  · rfl
theorem rowPlb {P : PL} {d : DipC} {i : Nat} (hi : i < P.length) (hk : P.length ≤ 1000000) (hne : P[i].1 = d) :
    qround Try.prog [] 100 4 [(9, .bool true), (18, .bool true)] noT PLL mPl (vPl P.length 0 i) (hPl (itP P) d.cells) = some (.ret, vPl P.length i i, hPl (itP P) d.cells) := by
  have e5 := wrap1 (i := i) (by omega)
  have e7 : 0 + (i : Int).toNat * 19 + 0 = i * 19 := by omega
  have hlP := itP_length P
  refine (nfPlb ..).trans ?_
  rw [e7, itP_18 hi]
  refine (if_pos (by simp; omega)).trans ?_
  refine (if_pos (by omega)).trans ?_
  refine (if_pos (by omega)).trans ?_
  refine (if_pos (by simp)).trans ?_
  generalize P[i].1 = x at *
  obtain ⟨v, b, q, hb⟩ := x
  obtain ⟨v', b', q', hb'⟩ := d
  obtain ⟨a0, a1, a2, a3, a4, a5, a6, a7, a8, a9, a10, a11, a12, a13, a14, a15, rfl⟩ := sixteen hb
  obtain ⟨c0, c1, c2, c3, c4, c5, c6, c7, c8, c9, c10, c11, c12, c13, c14, c15, rfl⟩ := sixteen hb'
  iterate 40 (refine (if_pos (by first | rfl | decide | (simp [DipC.cells]; done))).trans ?_)
  refine (if_pos (by cases hne; simp [DipC.cells, boolV, intV])).trans ?_
  rfl
theorem runPl {P : PL} {d : DipC} (hl : P.length ≤ 1000000) : ∃ h', Runs Try.prog 25 [.sl (some (0, 0)) P.length 0 false, .agg d.cells] [.cells (itP P) 19 .far none] (.int .i64 (ixP P d)) h' := by
  have lp : loopsOf (bodyOf Try.prog 25) = [PLL] := by kernel_rfl
  have step : ∀ i : Nat, i < P.length → i < atP P d → qround Try.prog [] 100 4 [(9, .bool true), (18, .bool false)] noT PLL mPl (vPl P.length 0 i) (hPl (itP P) d.cells) = some (.norm, vPl P.length 0 ((i + 1 : Nat) : Int), hPl (itP P) d.cells) := by
    intro i hi hk
    exact rowPla hi hl (by have := List.not_of_lt_findIdx (p := fun p : DipC × Int => decide (p.1 = d)) (xs := P) hk; simpa using this)
  by_cases hk : atP P d < P.length
  · have key : True → ∃ n, GReach (roundG Try.prog (deepT Try.prog [] 100 4) (lsT noT) PLL mPl) 2 n (vPl P.length 0 0) (hPl (itP P) d.cells) .ret (vPl P.length (atP P d) (atP P d)) (hPl (itP P) d.cells) := by
      intro _
      exact loop_T (fun i => (vPl P.length 0 i, hPl (itP P) d.cells)) (N := atP P d) (by simp) (fun i hi => ⟨_, _, _, step i (by omega) hi, Gc.refl⟩) ⟨_, _, _, rowPlb hk hl (atP_get hk), Gc.refl⟩
    unfold ixP; rw [if_pos hk]
    refine Runs.valT (find_nil _) (F := 100) (n := 4) (pr := []) (only (k := 2) lp (fixC_T (find_nil _) (F := 100) (n := 4) (LS := noT) (noLoops (by kernel_rfl)) key)) ?_
    refine (nfPlr ..).trans ?_
    exact if_pos (cdec_true.2 ⟨trivial, rfl, rfl⟩)
  · have key : True → ∃ n, GReach (roundG Try.prog (deepT Try.prog [] 100 4) (lsT noT) PLL mPl) 2 n (vPl P.length 0 0) (hPl (itP P) d.cells) (.exit 0) (vPl P.length 0 P.length) (hPl (itP P) d.cells) := by
      intro _
      exact loop_T (fun i => (vPl P.length 0 i, hPl (itP P) d.cells)) (N := P.length) (by simp) (fun i hi => ⟨_, _, _, step i hi (by omega), Gc.refl⟩) ⟨[(9, .bool false)], _, _, (nfPls ..).trans (if_pos (by simp)), Gc.refl⟩
    unfold ixP; rw [if_neg hk]
    refine Runs.valT (find_nil _) (F := 100) (n := 4) (pr := []) (only (k := 2) lp (fixC_T (find_nil _) (F := 100) (n := 4) (LS := noT) (noLoops (by kernel_rfl)) key)) ?_
    refine (nfPle ..).trans ?_
    exact if_pos (cdec_true.2 ⟨trivial, rfl, rfl⟩)
inductive PlR : List AV → AHeap → AV → AHeap → Prop
  | mk (P : PL) (d : DipC) (h : AHeap) (a : AV) (x : List AV) (g : rowP h a P) (hx : x = d.cells) (hl : P.length ≤ 1000000) (r : Int) (hr : r = ixP P d) : PlR [a, .agg x] h (.int .i64 r) []
theorem kPl : ∀ args h v new, PlR args h v new → ∃ args1 h1, Canons h 0 args args1 h1 ∧ ∃ v1 h1', Runs Try.prog 25 args1 h1 v1 h1' ∧ ∃ ks, Den h1' h1.length h.length ks v1 v new ∧ KsOk ks := by
  intro args h v new hR
  cases hR with
  | mk P d _ a x g hx hl r hr =>
  subst hr hx
  obtain ⟨h1, h2⟩ := runPl (d := d) hl
  exact ⟨_, _, .cons _ _ _ _ _ _ _ (rowP_canon g 0) (.cons _ _ _ _ _ _ _ (.flat _ _ d.cells_frees) (.nil _)), _, h1, h2, [], .flat _ _ rfl, ksOk0⟩
theorem sPlI : SoundE Try.prog 25 (entF (eRelI PlR)) := relI_sound kPl
theorem plU {P : PL} {d : DipC} {h : AHeap} {a : AV} {x : List AV} (g : rowP h a P) (hx : x = d.cells) (hl : P.length ≤ 1000000) : PlR [a, .agg x] h (.int .i64 (intC PlR [a, .agg x] h)) [] ∧ intC PlR [a, .agg x] h = ixP P d := by
  have R := PlR.mk P d h a x g hx hl _ rfl
  have e := intC_eq R fun r' R' => by
    cases R' with
    | mk P2 d2 _ _ _ g2 hx2 hl2 _ hr2 =>
    have h1 := itP_inj (g2.2.symm.trans g.2)
    have h2 := cells_inj (hx2.symm.trans hx)
    rw [hr2, h1, h2]
  rw [e]
  exact ⟨R, rfl⟩


theorem rowMb2a {P : PL} {i j : Nat} (hi : i < P.length) (hj : j < i) (hk : P.length ≤ 1000000) (hne : P[j].1 ≠ P[i].1) :
    qround Try.prog tMb 100 4 [(37, .bool true), (50, .bool false)] noT MB2 mMb2 (vMb2 P.length false i j) (hMb (itP P)) = some (.norm, vMb2 P.length false i ((j + 1 : Nat) : Int), hMb (itP P)) := by
  have e5 := wrap1 (i := j) (by omega)
  have e6 : 0 + (j : Int).toNat * 19 + 0 = j * 19 := by omega
  have e7 : 0 + (i : Int).toNat * 19 + 0 = i * 19 := by omega
  have hlP := itP_length P
  refine (nfMb2a ..).trans ?_
  rw [e6, e7, itP_18 hi, itP_18 (by omega : j < P.length), e5]
  refine (if_pos (by simp; omega)).trans ?_
  refine (if_pos (by omega)).trans ?_
  refine (if_pos (by omega)).trans ?_
  refine (if_pos (by omega)).trans ?_
  refine (if_pos (by omega)).trans ?_
  generalize P[j].1 = x at *
  generalize P[i].1 = d at *
  obtain ⟨v, b, q, hb⟩ := x
  obtain ⟨v', b', q', hb'⟩ := d
  obtain ⟨a0, a1, a2, a3, a4, a5, a6, a7, a8, a9, a10, a11, a12, a13, a14, a15, rfl⟩ := sixteen hb
  obtain ⟨c0, c1, c2, c3, c4, c5, c6, c7, c8, c9, c10, c11, c12, c13, c14, c15, rfl⟩ := sixteen hb'
  iterate 40 (refine (if_pos (by first | rfl | decide | (simp [DipC.cells]; done))).trans ?_)
  refine (if_pos (Bool.eq_false_iff.2 fun hc => hne ?_)).trans ?_
  · simp [DipC.cells, boolV, intV] at hc
    exact DipC.ext' hc.1.1 (by simp [hc]) (by simp [hc])
  · rfl
theorem rowMb2b {P : PL} {i j : Nat} (hi : i < P.length) (hj : j < i) (hk : P.length ≤ 1000000) (hne : P[j].1 = P[i].1) :
    qround Try.prog tMb 100 4 [(37, .bool true), (50, .bool true)] noT MB2 mMb2 (vMb2 P.length false i j) (hMb (itP P)) = some (.ret, vMb2 P.length false i j, hMb (itP P)) := by
  have e5 := wrap1 (i := j) (by omega)
  have e6 : 0 + (j : Int).toNat * 19 + 0 = j * 19 := by omega
  have e7 : 0 + (i : Int).toNat * 19 + 0 = i * 19 := by omega
  have hlP := itP_length P
  refine (nfMb2b ..).trans ?_
  rw [e6, e7, itP_18 hi, itP_18 (by omega : j < P.length)]
  refine (if_pos (by simp; omega)).trans ?_
  refine (if_pos (by omega)).trans ?_
  refine (if_pos (by omega)).trans ?_
  refine (if_pos (by omega)).trans ?_
  refine (if_pos (by omega)).trans ?_
  generalize P[j].1 = x at *
  generalize P[i].1 = d at *
  obtain ⟨v, b, q, hb⟩ := x
  obtain ⟨v', b', q', hb'⟩ := d
  obtain ⟨a0, a1, a2, a3, a4, a5, a6, a7, a8, a9, a10, a11, a12, a13, a14, a15, rfl⟩ := sixteen hb
  obtain ⟨c0, c1, c2, c3, c4, c5, c6, c7, c8, c9, c10, c11, c12, c13, c14, c15, rfl⟩ := sixteen hb'
  iterate 40 (refine (if_pos (by first | rfl | decide | (simp [DipC.cells]; done))).trans ?_)
  refine (if_pos (by cases hne; simp [DipC.cells, boolV, intV])).trans ?_
  rfl
theorem dupJ_eq {P : PL} {i : Nat} (hi : i < P.length) : dupJ P i = atP P P[i].1 := by
  unfold dupJ
  rw [List.getD_eq_getElem?_getD, List.getElem?_eq_getElem hi, Option.getD_some]
theorem saysMbE {P : PL} {i : Nat} (hi : i < P.length) (hk : P.length ≤ 1000000) (hd : ¬ atP P P[i].1 < i) :
    LSays bMb2 1 (vMb2 P.length false i 0) (hMb (itP P)) (.exit 2) (vMb2 P.length false i i) (hMb (itP P)) :=
  says_up (fun j => vMb2 P.length false i (j : Nat)) (N := i) (by simp) rfl rfl (fun j hj => ⟨[(37, .bool true), (50, .bool false)], rowMb2a hi hj hk (by
    have := List.not_of_lt_findIdx (p := fun p : DipC × Int => decide (p.1 = P[i].1)) (xs := P) (i := j) (by unfold atP at hd; omega)
    simpa using this)⟩) ⟨[(37, .bool false)], (nfMb2s ..).trans (if_pos (by simp))⟩
theorem saysMbR {P : PL} {i : Nat} (hi : i < P.length) (hk : P.length ≤ 1000000) (hd : atP P P[i].1 < i) :
    LSays bMb2 1 (vMb2 P.length false i 0) (hMb (itP P)) .ret (vMb2 P.length false i (atP P P[i].1 : Nat)) (hMb (itP P)) :=
  says_up (fun j => vMb2 P.length false i (j : Nat)) (N := atP P P[i].1) (by simp) rfl rfl (fun j hj => ⟨[(37, .bool true), (50, .bool false)], rowMb2a hi (by omega) hk (by
    have := List.not_of_lt_findIdx (p := fun p : DipC × Int => decide (p.1 = P[i].1)) (xs := P) (i := j) (by unfold atP at hj; omega)
    simpa using this)⟩) ⟨[(37, .bool true), (50, .bool true)], rowMb2b hi hd hk (atP_get (by omega))⟩
theorem bad_dup {P : PL} {i : Nat} (hi : i < P.length) : badAt P i = (!mOk P[i] || decide (atP P P[i].1 < i)) := by
  rw [badAt_some hi]
  congr 1
  rw [decide_eq_decide]
  constructor
  · intro h
    obtain ⟨p, hp, e⟩ := List.mem_map.1 h
    rw [List.mem_take_iff_getElem] at hp
    obtain ⟨j, hj, rfl⟩ := hp
    refine Classical.byContradiction fun hno => ?_
    have := List.not_of_lt_findIdx (p := fun p : DipC × Int => decide (p.1 = P[i].1)) (xs := P) (i := j) (by unfold atP at hno; omega)
    simp at this
    exact this e
  · intro h
    refine List.mem_map.2 ⟨P[atP P P[i].1]'(by omega), ?_, atP_get (by omega)⟩
    rw [List.mem_take_iff_getElem]
    exact ⟨atP P P[i].1, by omega, rfl⟩
theorem rowMb1 {P : PL} {i : Nat} (hi : i < P.length) (hk : P.length ≤ 1000000) : ∃ pr, qround Try.prog tMb 100 4 pr lsMb2 MB1 mMb1 (vMb1 P.length false i) (hMb (itP P)) = some (if badAt P i = true then (.ret, vMb1 P.length false i, hMb (itP P)) else (.norm, vMb1 P.length false ((i + 1 : Nat) : Int), hMb (itP P))) := by
  have e5 := wrap1 (i := i) (by omega)
  have e7 : 0 + (i : Int).toNat * 19 + 0 + 0 = i * 19 := by omega
  have e8 : (itP P)[0 + (i : Int).toNat * 19 + 18]? = some (.int .i64 P[i].2) := by
    rw [show 0 + (i : Int).toNat * 19 + 18 = i * 19 + 18 by omega]; exact itP_n hi
  have e8' : (itP P)[0 + i * 19 + 18]? = some (.int .i64 P[i].2) := by
    rw [show 0 + i * 19 + 18 = i * 19 + 18 by omega]; exact itP_n hi
  have b1 : intV (some (.int .i64 P[i].2)) = P[i].2 := rfl
  have hlP := itP_length P
  have e17 : ∀ x, x = i * 19 → IsAdr (List.take 17 (List.drop x (itP P))) := by rintro x rfl; rw [itP_17 hi]; exact .mk P[i].1 _ rfl
  have e18 : ∀ x, x = i * 19 → opq (adrValid (List.take 17 (List.drop x (itP P)))) = P[i].1.ok := by rintro x rfl; rw [itP_17 hi, opq_eq]; rfl
  have hb := bad_dup hi
  have hr0 : rowOf (hMb1a0 (itP P) P.length i) (AV.sl (some (0, 0)) P.length 0 false) = itP P := (rowP_blk (P := P) (h := hMb1a0 (itP P) P.length i) (k := 0) (n := P.length) (r := 0) (e := false) rfl rfl).2
  have hdu : dupMb [AV.sl (some (0, 0)) P.length 0 false, AV.bool false, AV.int .i64 i, AV.int .i64 0] (hMb1a0 (itP P) P.length i) = decide (atP P P[i].1 < i) := by
    unfold dupMb
    simp only [hr0, opq_eq, plOf_eq, Int.toNat_natCast, dupJ_eq hi]
  by_cases hm : mOk P[i] = true
  · have hm' := hm
    simp only [mOk, Bool.and_eq_true, decide_eq_true_eq] at hm'
    obtain ⟨⟨m1, m2⟩, m3⟩ := hm'
    rw [hm] at hb
    simp only [Bool.not_true, Bool.false_or] at hb
    refine ⟨[(8, .bool true), (34, .bool false)], (nfMb1a ..).trans ?_⟩
    simp only [e8, e8', b1, e5, hr0, plOf_eq, Int.toNat_natCast, dupJ_eq hi]
    refine (if_pos (by simp; omega)).trans ?_
    refine (if_pos (by omega)).trans ?_
    refine (if_pos (by omega)).trans ?_
    refine (if_pos (cdec_true.2 (e17 _ (by omega)))).trans ?_
    refine (if_neg (by rw [e18 _ (by omega), m1]; decide)).trans ?_
    refine (if_pos (by omega)).trans ?_
    refine (if_pos rfl).trans ?_
    refine (if_neg (by simp; omega)).trans ?_
    refine (if_pos (by omega)).trans ?_
    refine (if_pos rfl).trans ?_
    refine (if_pos (by simp; omega)).trans ?_
    rw [hb]
    by_cases hd : atP P P[i].1 < i
    · refine (if_pos (by rw [hdu]; exact decide_eq_true hd)).trans ?_
      refine (if_pos (cdec_true.2 (by rw [opq_eq]; exact saysMbR hi hk hd))).trans ?_
      rw [if_pos (decide_eq_true hd)]; rfl
    · refine (if_neg (by rw [hdu, decide_eq_false hd]; decide)).trans ?_
      refine (if_pos (cdec_true.2 (saysMbE hi hk hd))).trans ?_
      rw [if_neg (by rw [decide_eq_false hd]; decide)]; rfl
  · have hm' : mOk P[i] = false := by simpa using hm
    rw [hm'] at hb
    rw [hb]
    refine ⟨[(8, .bool true), (34, .bool true)], (nfMb1b ..).trans ?_⟩
    simp only [e8, b1]
    refine (if_pos (by simp; omega)).trans ?_
    refine (if_pos (by omega)).trans ?_
    refine (if_pos (by omega)).trans ?_
    refine (if_pos (cdec_true.2 (e17 _ (by omega)))).trans ?_
    cases m1 : P[i].1.ok
    · exact if_pos (by rw [e18 _ (by omega), m1]; rfl)
    refine (if_neg (by rw [e18 _ (by omega), m1]; decide)).trans ?_
    refine (if_pos (by omega)).trans ?_
    refine (if_pos rfl).trans ?_
    by_cases h1 : P[i].2 < 1
    · exact if_pos (decide_eq_true h1)
    refine (if_neg (by simpa using h1)).trans ?_
    refine (if_pos (by omega)).trans ?_
    refine (if_pos rfl).trans ?_
    refine if_pos ?_
    simp only [mOk, m1, Bool.true_and, Bool.and_eq_false_iff, decide_eq_false_iff_not] at hm'
    simp only [decide_eq_true_eq]
    omega
theorem runMb {P : PL} (hk : P.length ≤ 1000000) : ∃ h', Runs Try.prog 13 [.sl (some (0, 0)) P.length 0 false] (hMb (itP P)) (.bool (decide (chkP P = 0))) h' := by
  have lp : loopsOf (bodyOf Try.prog 13) = [MB1] := by kernel_rfl
  have step : ∀ i, i < P.length → badAt P i = false → ∃ pr vs1 h1, qround Try.prog tMb 100 4 pr lsMb2 MB1 mMb1 (vMb1 P.length false i) (hMb (itP P)) = some (.norm, vs1, h1) ∧ Gc 1 vs1 h1 (vMb1 P.length false ((i + 1 : Nat) : Int)) (hMb (itP P)) := by
    intro i hi hb
    obtain ⟨pr, h⟩ := rowMb1 hi hk
    rw [if_neg (by rw [hb]; decide)] at h
    exact ⟨pr, _, _, h, Gc.refl⟩
  by_cases hf : firstBad P < P.length
  · have hc : decide (chkP P = 0) = false := decide_eq_false fun h => by
      have := ((chk_iff P).1 h).2 _ hf
      rw [firstBad_bad hf] at this; simp at this
    rw [hc]
    have key : True → ∃ n, GReach (roundG Try.prog (deepT Try.prog tMb 100 4) (lsT lsMb2) MB1 mMb1) 1 n (vMb1 P.length false 0) (hMb (itP P)) .ret (vMb1 P.length false (firstBad P)) (hMb (itP P)) := by
      intro _
      obtain ⟨pr, h⟩ := rowMb1 hf hk
      rw [if_pos (firstBad_bad hf)] at h
      exact loop_T (fun i => (vMb1 P.length false i, hMb (itP P))) (N := firstBad P) (by simp) (fun i hi => step i (by omega) (firstBad_not (by omega) hi)) ⟨pr, _, _, h, Gc.refl⟩
    refine Runs.valT tMbOk (F := 100) (n := 4) (pr := []) (only (k := 2) lp (fixC_T tMbOk (F := 100) (n := 4) (LS := lsMb2) lsMbOk key)) ?_
    refine (nfMbr ..).trans ?_
    exact if_pos (cdec_true.2 ⟨trivial, rfl, rfl⟩)
  · have hc : decide (chkP P = 0) = decide ((P.length : Int) ≤ 32) := by
      rw [decide_eq_decide, chk_iff]
      constructor
      · intro h; omega
      · intro h; exact ⟨by omega, fun i hi => firstBad_not hi (by omega)⟩
    rw [hc]
    have key : True → ∃ n, GReach (roundG Try.prog (deepT Try.prog tMb 100 4) (lsT lsMb2) MB1 mMb1) 1 n (vMb1 P.length false 0) (hMb (itP P)) (.exit 0) (vMb1 P.length false P.length) (hMb (itP P)) := by
      intro _
      exact loop_T (fun i => (vMb1 P.length false i, hMb (itP P))) (N := P.length) (by simp) (fun i hi => step i hi (firstBad_not hi (by omega))) ⟨[(8, .bool false)], _, _, (nfMb1s ..).trans (if_pos (by simp)), Gc.refl⟩
    refine Runs.valT tMbOk (F := 100) (n := 4) (pr := []) (only (k := 2) lp (fixC_T tMbOk (F := 100) (n := 4) (LS := lsMb2) lsMbOk key)) ?_
    refine (nfMbe ..).trans ?_
    exact if_pos (cdec_true.2 ⟨trivial, rfl, rfl⟩)
noncomputable def eMb : GEnt := fun args h => match args with
  | [a] => some (cdec (rowP h a (plOf (rowOf h a)) ∧ nOf a ≤ 1000000), .bool (opq (decide (chkP (plOf (rowOf h a)) = 0))), h)
  | _ => none
theorem sMb : SoundE Try.prog 13 (entF eMb) := canonV_sound fun args h v h' hg => by
  unfold eMb at hg
  split at hg
  · simp only [Option.some.injEq, Prod.mk.injEq] at hg
    obtain ⟨hc, rfl, rfl⟩ := hg
    obtain ⟨g, hn⟩ := cdec_true.1 hc
    rw [rowP_len g] at hn
    obtain ⟨h2, hr⟩ := runMb hn
    rw [opq_eq]
    exact ⟨rfl, rfl, _, _, .cons _ _ _ _ _ _ _ (rowP_canon g 0) (.nil _), h2, hr⟩
  · simp at hg
theorem mb_ok {h : AHeap} {a : AV} {P : PL} (g : rowP h a P) (hl : P.length ≤ 1000000) : (rowP h a (plOf (rowOf h a)) ∧ nOf a ≤ 1000000) ∧ opq (decide (chkP (plOf (rowOf h a)) = 0)) = decide (chkP P = 0) := by
  have e : plOf (rowOf h a) = P := by rw [g.2, plOf_eq]
  rw [opq_eq, e, rowP_len g]
  exact ⟨⟨g, hl⟩, rfl⟩

end Go.Proofs.Ytlppbeoiphglcaa.L
