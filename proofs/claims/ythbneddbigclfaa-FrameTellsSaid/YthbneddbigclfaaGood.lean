/- seg's Good, and the reference's: what they yield. -/
import Derived.Test.YthbneddbigclfaaSeg3
set_option autoImplicit false
set_option maxRecDepth 100000
set_option linter.unusedVariables false
set_option linter.unusedSimpArgs false
namespace Go.Proofs.Ythbneddbigclfaa.L
open Go Go.Abs

theorem runPs4 (a0 a1 a2 a3 b0 b1 b2 b3 p : UInt8) (X Y : List UInt8) (n : Int) (hX : X.length = 16) (hY : Y.length = 16) (hA : adrBytes (.bool false :: bys X) = [a0, a1, a2, a3]) (hB : adrBytes (.bool false :: bys Y) = [b0, b1, b2, b3]) :
    ∃ h1, Runs Try.prog 46 [.int .u8 (p.toNat : Int), .int .i64 n, .agg (.bool false :: bys X), .agg (.bool false :: bys Y)] [] (.sl (some (9, 0)) 12 0 false) h1 ∧ ∃ par, h1[9]? = some (.cells (bys ([a0, a1, a2, a3] ++ [b0, b1, b2, b3] ++ ([0, p] ++ bigR n 2))) 1 .own par) := by
  have hwX : adrWf (List.take 17 (AV.bool false :: bys X)) = true := by rw [adrB_17 hX]; exact adrB_wf hX
  have hwY : adrWf (List.take 17 (AV.bool false :: bys Y)) = true := by rw [adrB_17 hY]; exact adrB_wf hY
  have hAX : adrBytes (List.take 17 (AV.bool false :: bys X)) = [a0, a1, a2, a3] := by rw [adrB_17 hX]; exact hA
  have hBY : adrBytes (List.take 17 (AV.bool false :: bys Y)) = [b0, b1, b2, b3] := by rw [adrB_17 hY]; exact hB
  obtain ⟨e1, e2⟩ := be2_16 n
  refine ⟨hPs46 a0 a1 a2 a3 b0 b1 b2 b3 X Y p n, Runs.ofT0 (tPsOk 8 [a0, a1, a2, a3] [b0, b1, b2, b3] [a0, a1, a2, a3, b0, b1, b2, b3, 0, p]) (F := 100) (n := 4) (pr := []) ?_, none, ?_⟩
  · refine (nfPs4 a0 a1 a2 a3 b0 b1 b2 b3 X Y p n _).trans ?_
    refine (if_pos (by simp [hX, hY])).trans ?_
    refine (if_pos (cdec_true.2 (sayBytes hwX hAX rfl))).trans ?_
    refine (if_pos (by simp [hX, hY])).trans ?_
    refine (if_pos (cdec_true.2 (sayBytes hwY hBY rfl))).trans ?_
    refine (if_pos (by simp [hX, hY])).trans ?_
    refine (if_pos (AV.beq_self _)).trans ?_
    refine (if_pos (cdec_true.2 (sayClone (l := [a0, a1, a2, a3, b0, b1, b2, b3, 0, p]) (bOk_row rfl rfl rfl) (by simp) rfl))).trans ?_
    rfl
  · unfold hPs46
    rw [e1, e2]; rfl

theorem runPs6 (a0 a1 a2 a3 a4 a5 a6 a7 a8 a9 a10 a11 a12 a13 a14 a15 b0 b1 b2 b3 b4 b5 b6 b7 b8 b9 b10 b11 b12 b13 b14 b15 p : UInt8) (X Y : List UInt8) (n : Int) (hX : X.length = 16) (hY : Y.length = 16) (hA : adrBytes (.bool true :: bys X) = [a0, a1, a2, a3, a4, a5, a6, a7, a8, a9, a10, a11, a12, a13, a14, a15]) (hB : adrBytes (.bool true :: bys Y) = [b0, b1, b2, b3, b4, b5, b6, b7, b8, b9, b10, b11, b12, b13, b14, b15]) :
    ∃ h1, Runs Try.prog 46 [.int .u8 (p.toNat : Int), .int .i64 n, .agg (.bool true :: bys X), .agg (.bool true :: bys Y)] [] (.sl (some (9, 0)) 40 0 false) h1 ∧ ∃ par, h1[9]? = some (.cells (bys ([a0, a1, a2, a3, a4, a5, a6, a7, a8, a9, a10, a11, a12, a13, a14, a15] ++ [b0, b1, b2, b3, b4, b5, b6, b7, b8, b9, b10, b11, b12, b13, b14, b15] ++ (bigR n 4 ++ [0, 0, 0, p]))) 1 .own par) := by
  have hwX : adrWf (List.take 17 (AV.bool true :: bys X)) = true := by rw [adrB_17 hX]; exact adrB_wf hX
  have hwY : adrWf (List.take 17 (AV.bool true :: bys Y)) = true := by rw [adrB_17 hY]; exact adrB_wf hY
  have hAX : adrBytes (List.take 17 (AV.bool true :: bys X)) = [a0, a1, a2, a3, a4, a5, a6, a7, a8, a9, a10, a11, a12, a13, a14, a15] := by rw [adrB_17 hX]; exact hA
  have hBY : adrBytes (List.take 17 (AV.bool true :: bys Y)) = [b0, b1, b2, b3, b4, b5, b6, b7, b8, b9, b10, b11, b12, b13, b14, b15] := by rw [adrB_17 hY]; exact hB
  obtain ⟨e1, e2, e3, e4⟩ := be4_32 n
  refine ⟨hPs66 a0 a1 a2 a3 a4 a5 a6 a7 a8 a9 a10 a11 a12 a13 a14 a15 b0 b1 b2 b3 b4 b5 b6 b7 b8 b9 b10 b11 b12 b13 b14 b15 X Y p n, Runs.ofT0 (tPsOk 6 [a0, a1, a2, a3, a4, a5, a6, a7, a8, a9, a10, a11, a12, a13, a14, a15] [b0, b1, b2, b3, b4, b5, b6, b7, b8, b9, b10, b11, b12, b13, b14, b15] [a0, a1, a2, a3, a4, a5, a6, a7, a8, a9, a10, a11, a12, a13, a14, a15, b0, b1, b2, b3, b4, b5, b6, b7, b8, b9, b10, b11, b12, b13, b14, b15]) (F := 100) (n := 4) (pr := []) ?_, some 7, ?_⟩
  · refine (nfPs6 a0 a1 a2 a3 a4 a5 a6 a7 a8 a9 a10 a11 a12 a13 a14 a15 b0 b1 b2 b3 b4 b5 b6 b7 b8 b9 b10 b11 b12 b13 b14 b15 X Y p n _).trans ?_
    refine (if_pos (by simp [hX, hY])).trans ?_
    refine (if_pos (cdec_true.2 (sayBytes hwX hAX rfl))).trans ?_
    refine (if_pos (by simp [hX, hY])).trans ?_
    refine (if_pos (cdec_true.2 (sayBytes hwY hBY rfl))).trans ?_
    refine (if_pos (by simp [hX, hY])).trans ?_
    refine (if_pos (AV.beq_self _)).trans ?_
    refine (if_pos (cdec_true.2 (sayClone (l := [a0, a1, a2, a3, a4, a5, a6, a7, a8, a9, a10, a11, a12, a13, a14, a15, b0, b1, b2, b3, b4, b5, b6, b7, b8, b9, b10, b11, b12, b13, b14, b15]) (bOk_row rfl rfl rfl) (by simp) rfl))).trans ?_
    rfl
  · unfold hPs66
    rw [e1, e2, e3, e4]; rfl

theorem u8i_val' {x : Int} (h : 0 ≤ x ∧ x < 256) : ((u8i x).toNat : Int) = x := by rw [u8i_toNat]; omega
theorem sPseudo : SoundE Try.prog 46 (entF ePseudo) := by
  refine canonR_sound fun args h v' h' hg => ?_
  unfold ePseudo at hg
  split at hg
  · rename_i p n cs ds
    simp only [Option.some.injEq, Prod.mk.injEq, Bool.and_eq_true, decide_eq_true_eq] at hg
    obtain ⟨⟨hwc, hwd, hp, hn, hvv⟩, rfl, rfl⟩ := hg
    obtain ⟨v, X, rfl, hX⟩ := adrWf_B hwc
    obtain ⟨w, Y, rfl, hY⟩ := adrWf_B hwd
    replace hvv : v = w := hvv
    subst hvv
    have hpp : p = ((u8i p).toNat : Int) := (u8i_val' hp).symm
    refine ⟨[.int .u8 p, .int .i64 n, .agg (.bool v :: bys X), .agg (.bool v :: bys Y)], [], .cons _ _ _ _ _ _ _ (.flat _ _ rfl) (.cons _ _ _ _ _ _ _ (.flat _ _ rfl) (.cons _ _ _ _ _ _ _ (.flat _ _ adrB_free) (.cons _ _ _ _ _ _ _ (.flat _ _ adrB_free) (.nil _)))), ?_⟩
    have fin : ∀ {L : List UInt8} {k : Nat} {h1 : AHeap}, Runs Try.prog 46 [.int .u8 ((u8i p).toNat : Int), .int .i64 n, .agg (.bool v :: bys X), .agg (.bool v :: bys Y)] [] (.sl (some (9, 0)) k 0 false) h1 ∧ (∃ par, h1[9]? = some (.cells (bys L) 1 .own par)) → pseudoL p n (.bool v :: bys X) (.bool v :: bys Y) = L → k = L.length →
        ∃ v1 h1', Runs Try.prog 46 [.int .u8 p, .int .i64 n, .agg (.bool v :: bys X), .agg (.bool v :: bys Y)] [] v1 h1' ∧ ∃ ks new, h ++ [ownB (pseudoL p n (.bool v :: bys X) (.bool v :: bys Y))] = h ++ new ∧ Den h1' ([] : AHeap).length h.length ks v1 (slB h.length (pseudoL p n (.bool v :: bys X) (.bool v :: bys Y))) new ∧ KsOk ks := by
      rintro L k h1 ⟨hx, par, hc⟩ hL hk
      rw [hL]
      rw [← hpp] at hx
      exact ⟨_, h1, hx, [some 9], _, rfl, denB (by simp) hc rfl hk, ksOk1 _⟩
    cases v
    · obtain ⟨a0, a1, a2, a3, hA⟩ := four_of (l := adrBytes (.bool false :: bys X)) (by rw [adrB_F]; simp [hX])
      obtain ⟨b0, b1, b2, b3, hB⟩ := four_of (l := adrBytes (.bool false :: bys Y)) (by rw [adrB_F]; simp [hY])
      obtain ⟨h1, hx⟩ := runPs4 a0 a1 a2 a3 b0 b1 b2 b3 (u8i p) X Y n hX hY hA hB
      refine fin hx ?_ rfl
      unfold pseudoL
      rw [hA, hB]; rfl
    · obtain ⟨a0, a1, a2, a3, a4, a5, a6, a7, a8, a9, a10, a11, a12, a13, a14, a15, hA⟩ := sixteen_of (l := adrBytes (.bool true :: bys X)) (by rw [adrB_T]; exact hX)
      obtain ⟨b0, b1, b2, b3, b4, b5, b6, b7, b8, b9, b10, b11, b12, b13, b14, b15, hB⟩ := sixteen_of (l := adrBytes (.bool true :: bys Y)) (by rw [adrB_T]; exact hY)
      obtain ⟨h1, hx⟩ := runPs6 a0 a1 a2 a3 a4 a5 a6 a7 a8 a9 a10 a11 a12 a13 a14 a15 b0 b1 b2 b3 b4 b5 b6 b7 b8 b9 b10 b11 b12 b13 b14 b15 (u8i p) X Y n hX hY hA hB
      refine fin hx ?_ rfl
      unfold pseudoL
      rw [hA, hB]; rfl
  · simp at hg

theorem tGoodOk (PS : List UInt8) (v : AV) (s s1 s2 : Int) : ∀ f E, (tGood PS v s s1 s2).find f = some E → SoundE Try.prog f E := find_cons (sSay sSegR _) (find_cons (sSay sW16 _) (find_cons (sSay sPseudo _) (find_cons (sSayI sSum _) (find_nil _))))
theorem sayPs {h : AHeap} {cs ds : List AV} {p n : Int} {L : List UInt8} {k : Nat} (hc : adrWf cs = true) (hd : adrWf ds = true) (hp : 0 ≤ p ∧ p < 256) (hn : 0 ≤ n) (hv : adrV6 cs = adrV6 ds) (hL : pseudoL p n cs ds = L) (hk : h.length = k) : Says ePseudo [.int .u8 p, .int .i64 n, .agg cs, .agg ds] h (slB k L) [ownB L] := ⟨by
  show some (adrWf cs && (adrWf ds && decide ((0 ≤ p ∧ p < 256) ∧ 0 ≤ n ∧ adrV6 cs = adrV6 ds)), slB h.length (pseudoL p n cs ds), h ++ [ownB (pseudoL p n cs ds)]) = _
  rw [hc, hd, hL, hk, decide_eq_true ⟨hp, hn, hv⟩]; rfl⟩
theorem pseudoL_even (p n : Int) (v : Bool) (X Y : List UInt8) (hX : X.length = 16) (hY : Y.length = 16) : (pseudoL p n (.bool v :: bys X) (.bool v :: bys Y)).length = if v then 40 else 12 := by
  unfold pseudoL
  cases v <;> simp [adrB_F, adrB_T, adrV6, hX, hY, bigR8_2, bigR8_4]
theorem runGoodA (l X Y : List UInt8) (v : Bool) (s1 s2 : Int) (hl : l.length ≤ 1000000000000) (hX : X.length = 16) (hY : Y.length = 16) (hr : segR 6 l = 0) (h1 : sumI (pseudoL 6 l.length (.bool v :: bys X) (.bool v :: bys Y)) 0 = s1) (h2 : sumI l s1 = s2) :
    ∃ h1, Runs Try.prog 27 [.int .u8 6, slB 0 l, .agg (.bool v :: bys X), .agg (.bool v :: bys Y)] [farB l] (.bool (decide (s2 = 65535))) h1 := by
  have hn : 20 ≤ l.length := by rcases segR_len hr with h | h <;> omega
  have hwX : adrWf (List.take 17 (AV.bool v :: bys X)) = true := by rw [adrB_17 hX]; exact adrB_wf hX
  have hwY : adrWf (List.take 17 (AV.bool v :: bys Y)) = true := by rw [adrB_17 hY]; exact adrB_wf hY
  have hv : adrV6 (List.take 17 (AV.bool v :: bys X)) = adrV6 (List.take 17 (AV.bool v :: bys Y)) := rfl
  have hsr : 0 ≤ s1 ∧ s1 < 65536 := by rw [← h1]; exact sumI_range _ _
  have hps : nOf (.sl (some (4, 0)) (pseudoL 6 l.length (.bool v :: bys X) (.bool v :: bys Y)).length 0 false) ≤ 70368744177664 := by
    show (pseudoL 6 l.length (.bool v :: bys X) (.bool v :: bys Y)).length ≤ _
    rw [pseudoL_even _ _ _ _ _ hX hY]; cases v <;> decide
  refine Runs.valT0 (tGoodOk (pseudoL 6 l.length (.bool v :: bys X) (.bool v :: bys Y)) (hd7 (word l 0) (word l 2) (segF 6 l)) (word l 16) s1 s2) (F := 100) (n := 4) (pr := [(20, .bool false), (26, .bool false)]) ?_
  refine (nfGoodA l (pseudoL 6 l.length (.bool v :: bys X) (.bool v :: bys Y)) X Y v v (word l 0) (word l 16) (word l 2) (segF 6 l) s1 s2 _).trans ?_
  refine (if_pos (cdec_true.2 (saySegR (bOk_row rfl rfl rfl) hl (segRead_Y hr).1))).trans ?_
  refine (if_pos (by simp)).trans ?_
  refine (if_pos (cdec_true.2 (sayW (l := l) (bOk_row rfl rfl rfl) ⟨by simp; omega, by decide, by simp; omega⟩ (by decide) rfl))).trans ?_
  refine (if_pos (by simp [hX, hY])).trans ?_
  refine (if_pos (by simp [hX, hY])).trans ?_
  refine (if_pos (cdec_true.2 (sayPs hwX hwY (by decide) (by omega) hv (by rw [adrB_17 hX, adrB_17 hY]) rfl))).trans ?_
  refine (if_pos (cdec_true.2 (saySum (bOk_row rfl rfl rfl) ⟨hps, by decide⟩ h1))).trans ?_
  refine (if_pos (cdec_true.2 ((by rw [wrapU32 (by omega)]; exact saySum (bOk_row rfl rfl rfl) ⟨by simp; omega, by omega⟩ h2)))).trans ?_
  rfl

theorem runRGoodA4 (a0 a1 a2 a3 b0 b1 b2 b3 : UInt8) (l X Y : List UInt8) (s2 : Int) (hl : l.length ≤ 1000000000000) (hX : X.length = 16) (hY : Y.length = 16) (hr : segR 6 l = 0) (hA : adrBytes (.bool false :: bys X) = [a0, a1, a2, a3]) (hB : adrBytes (.bool false :: bys Y) = [b0, b1, b2, b3]) (h2 : sumI ((pseudoL 6 l.length (.bool false :: bys X) (.bool false :: bys Y)) ++ l) 0 = s2) :
    ∃ h1, Runs Try.prog 28 [.int .u8 6, slB 0 l, .agg (.bool false :: bys X), .agg (.bool false :: bys Y)] [farB l] (.bool (decide (s2 = 65535))) h1 := by
  have hn : 20 ≤ l.length := by rcases segR_len hr with h | h <;> omega
  have hwX : adrWf (List.take 17 (AV.bool false :: bys X)) = true := by rw [adrB_17 hX]; exact adrB_wf hX
  have hwY : adrWf (List.take 17 (AV.bool false :: bys Y)) = true := by rw [adrB_17 hY]; exact adrB_wf hY
  have hAX : adrBytes (List.take 17 (AV.bool false :: bys X)) = [a0, a1, a2, a3] := by rw [adrB_17 hX]; exact hA
  have hBY : adrBytes (List.take 17 (AV.bool false :: bys Y)) = [b0, b1, b2, b3] := by rw [adrB_17 hY]; exact hB
  have f1 : ∀ x : Int, IntKind.u8.wrap x = ((u8i x).toNat : Int) := fun x => wrapU8_byte x
  have hcell : ([AV.int IntKind.u8 (a0.toNat : Int), AV.int IntKind.u8 (a1.toNat : Int), AV.int IntKind.u8 (a2.toNat : Int), AV.int IntKind.u8 (a3.toNat : Int), AV.int IntKind.u8 (b0.toNat : Int), AV.int IntKind.u8 (b1.toNat : Int), AV.int IntKind.u8 (b2.toNat : Int), AV.int IntKind.u8 (b3.toNat : Int), AV.int IntKind.u8 0, AV.int IntKind.u8 6, AV.int IntKind.u8 (IntKind.u8.wrap (((l.length : Int)).fdiv 256)), AV.int IntKind.u8 (IntKind.u8.wrap (l.length : Int))] ++ List.take (l.length * 1) (bys l)) = bys ((pseudoL 6 l.length (.bool false :: bys X) (.bool false :: bys Y)) ++ l) := by
    unfold pseudoL
    rw [hA, hB, bys_full]
    simp only [f1]
    rw [if_neg (by simp [adrV6])]
    have e8 : ((l.length : Int)).fdiv 1 = (l.length : Int) := by rw [Int.fdiv_eq_ediv_of_nonneg _ (by omega), Int.ediv_one]
    rw [bigR8_2, e8]; rfl
  refine Runs.valT0 (tRGoodOk 10 [a0, a1, a2, a3] [b0, b1, b2, b3] (rd7 (word l 0) (word l 2) (segF 6 l)) (word l 16) s2) (F := 100) (n := 4) (pr := [(20, .bool false), (26, .bool false)]) ?_
  refine (nfRGoodA4 a0 a1 a2 a3 b0 b1 b2 b3 l [] X Y false false (word l 0) (word l 16) (word l 2) (segF 6 l) 0 s2 _).trans ?_
  refine (if_pos (cdec_true.2 (sayRSegR (bOk_row rfl rfl rfl) hl (segRead_Y hr).2))).trans ?_
  refine (if_pos (by simp [hX, hY])).trans ?_
  refine (if_pos (cdec_true.2 (sayBytes hwX hAX rfl))).trans ?_
  refine (if_pos (by simp [hX, hY])).trans ?_
  refine (if_pos (cdec_true.2 (sayBytes hwY hBY rfl))).trans ?_
  refine (if_pos (by simp [hX, hY])).trans ?_
  refine (if_pos (AV.beq_self _)).trans ?_
  refine (if_pos (by first | exact True.intro | rfl | omega | (simp; done) | (simp; omega) | (simp [capOf]; done) | (simp [capOf]; omega))).trans ?_
  refine (if_pos (by first | exact True.intro | rfl | omega | (simp; done) | (simp; omega) | (simp [capOf]; done) | (simp [capOf]; omega))).trans ?_
  refine (if_pos (by first | exact True.intro | rfl | omega | (simp; done) | (simp; omega) | (simp [capOf]; done) | (simp [capOf]; omega))).trans ?_
  refine (if_pos (cdec_true.2 (sayRSum (l := (pseudoL 6 l.length (.bool false :: bys X) (.bool false :: bys Y)) ++ l) (bOk_row rfl hcell (by simp [pseudoL, hA, hB, adrV6, bigR8_2, bigR8_4] <;> omega)) (by simp <;> omega) h2))).trans ?_
  rfl

theorem runRGoodA6 (a0 a1 a2 a3 a4 a5 a6 a7 a8 a9 a10 a11 a12 a13 a14 a15 b0 b1 b2 b3 b4 b5 b6 b7 b8 b9 b10 b11 b12 b13 b14 b15 : UInt8) (l X Y : List UInt8) (s2 : Int) (hl : l.length ≤ 1000000000000) (hX : X.length = 16) (hY : Y.length = 16) (hr : segR 6 l = 0) (hA : adrBytes (.bool true :: bys X) = [a0, a1, a2, a3, a4, a5, a6, a7, a8, a9, a10, a11, a12, a13, a14, a15]) (hB : adrBytes (.bool true :: bys Y) = [b0, b1, b2, b3, b4, b5, b6, b7, b8, b9, b10, b11, b12, b13, b14, b15]) (h2 : sumI ((pseudoL 6 l.length (.bool true :: bys X) (.bool true :: bys Y)) ++ l) 0 = s2) :
    ∃ h1, Runs Try.prog 28 [.int .u8 6, slB 0 l, .agg (.bool true :: bys X), .agg (.bool true :: bys Y)] [farB l] (.bool (decide (s2 = 65535))) h1 := by
  have hn : 20 ≤ l.length := by rcases segR_len hr with h | h <;> omega
  have hwX : adrWf (List.take 17 (AV.bool true :: bys X)) = true := by rw [adrB_17 hX]; exact adrB_wf hX
  have hwY : adrWf (List.take 17 (AV.bool true :: bys Y)) = true := by rw [adrB_17 hY]; exact adrB_wf hY
  have hAX : adrBytes (List.take 17 (AV.bool true :: bys X)) = [a0, a1, a2, a3, a4, a5, a6, a7, a8, a9, a10, a11, a12, a13, a14, a15] := by rw [adrB_17 hX]; exact hA
  have hBY : adrBytes (List.take 17 (AV.bool true :: bys Y)) = [b0, b1, b2, b3, b4, b5, b6, b7, b8, b9, b10, b11, b12, b13, b14, b15] := by rw [adrB_17 hY]; exact hB
  have f1 : ∀ x : Int, IntKind.u8.wrap x = ((u8i x).toNat : Int) := fun x => wrapU8_byte x
  have hcell : ([AV.int IntKind.u8 (a0.toNat : Int), AV.int IntKind.u8 (a1.toNat : Int), AV.int IntKind.u8 (a2.toNat : Int), AV.int IntKind.u8 (a3.toNat : Int), AV.int IntKind.u8 (a4.toNat : Int), AV.int IntKind.u8 (a5.toNat : Int), AV.int IntKind.u8 (a6.toNat : Int), AV.int IntKind.u8 (a7.toNat : Int), AV.int IntKind.u8 (a8.toNat : Int), AV.int IntKind.u8 (a9.toNat : Int), AV.int IntKind.u8 (a10.toNat : Int), AV.int IntKind.u8 (a11.toNat : Int), AV.int IntKind.u8 (a12.toNat : Int), AV.int IntKind.u8 (a13.toNat : Int), AV.int IntKind.u8 (a14.toNat : Int), AV.int IntKind.u8 (a15.toNat : Int), AV.int IntKind.u8 (b0.toNat : Int), AV.int IntKind.u8 (b1.toNat : Int), AV.int IntKind.u8 (b2.toNat : Int), AV.int IntKind.u8 (b3.toNat : Int), AV.int IntKind.u8 (b4.toNat : Int), AV.int IntKind.u8 (b5.toNat : Int), AV.int IntKind.u8 (b6.toNat : Int), AV.int IntKind.u8 (b7.toNat : Int), AV.int IntKind.u8 (b8.toNat : Int), AV.int IntKind.u8 (b9.toNat : Int), AV.int IntKind.u8 (b10.toNat : Int), AV.int IntKind.u8 (b11.toNat : Int), AV.int IntKind.u8 (b12.toNat : Int), AV.int IntKind.u8 (b13.toNat : Int), AV.int IntKind.u8 (b14.toNat : Int), AV.int IntKind.u8 (b15.toNat : Int), AV.int IntKind.u8 (IntKind.u8.wrap (((l.length : Int)).fdiv 16777216)), AV.int IntKind.u8 (IntKind.u8.wrap (((l.length : Int)).fdiv 65536)), AV.int IntKind.u8 (IntKind.u8.wrap (((l.length : Int)).fdiv 256)), AV.int IntKind.u8 (IntKind.u8.wrap (l.length : Int)), AV.int IntKind.u8 0, AV.int IntKind.u8 0, AV.int IntKind.u8 0, AV.int IntKind.u8 6] ++ List.take (l.length * 1) (bys l)) = bys ((pseudoL 6 l.length (.bool true :: bys X) (.bool true :: bys Y)) ++ l) := by
    unfold pseudoL
    rw [hA, hB, bys_full]
    simp only [f1]
    rw [if_pos (show adrV6 (AV.bool true :: bys X) = true by simp [adrV6])]
    have e8 : ((l.length : Int)).fdiv 1 = (l.length : Int) := by rw [Int.fdiv_eq_ediv_of_nonneg _ (by omega), Int.ediv_one]
    rw [bigR8_4, e8]; rfl
  refine Runs.valT0 (tRGoodOk 10 [a0, a1, a2, a3, a4, a5, a6, a7, a8, a9, a10, a11, a12, a13, a14, a15] [b0, b1, b2, b3, b4, b5, b6, b7, b8, b9, b10, b11, b12, b13, b14, b15] (rd7 (word l 0) (word l 2) (segF 6 l)) (word l 16) s2) (F := 100) (n := 4) (pr := [(20, .bool false), (26, .bool false)]) ?_
  refine (nfRGoodA6 a0 a1 a2 a3 a4 a5 a6 a7 a8 a9 a10 a11 a12 a13 a14 a15 b0 b1 b2 b3 b4 b5 b6 b7 b8 b9 b10 b11 b12 b13 b14 b15 l [] X Y false false (word l 0) (word l 16) (word l 2) (segF 6 l) 0 s2 _).trans ?_
  refine (if_pos (cdec_true.2 (sayRSegR (bOk_row rfl rfl rfl) hl (segRead_Y hr).2))).trans ?_
  refine (if_pos (by simp [hX, hY])).trans ?_
  refine (if_pos (cdec_true.2 (sayBytes hwX hAX rfl))).trans ?_
  refine (if_pos (by simp [hX, hY])).trans ?_
  refine (if_pos (cdec_true.2 (sayBytes hwY hBY rfl))).trans ?_
  refine (if_pos (by simp [hX, hY])).trans ?_
  refine (if_pos (AV.beq_self _)).trans ?_
  refine (if_pos (by first | exact True.intro | rfl | omega | (simp; done) | (simp; omega) | (simp [capOf]; done) | (simp [capOf]; omega))).trans ?_
  refine (if_pos (by first | exact True.intro | rfl | omega | (simp; done) | (simp; omega) | (simp [capOf]; done) | (simp [capOf]; omega))).trans ?_
  refine (if_pos (by first | exact True.intro | rfl | omega | (simp; done) | (simp; omega) | (simp [capOf]; done) | (simp [capOf]; omega))).trans ?_
  refine (if_pos (cdec_true.2 (sayRSum (l := (pseudoL 6 l.length (.bool true :: bys X) (.bool true :: bys Y)) ++ l) (bOk_row rfl hcell (by simp [pseudoL, hA, hB, adrV6, bigR8_2, bigR8_4] <;> omega)) (by simp <;> omega) h2))).trans ?_
  rfl

theorem runGoodB (l X Y : List UInt8) (v : Bool) (s1 s2 : Int) (hl : l.length ≤ 1000000000000) (hX : X.length = 16) (hY : Y.length = 16) (hr : segR 17 l = 0) (hs0 : word l 6 ≠ 0) (h1 : sumI (pseudoL 17 l.length (.bool v :: bys X) (.bool v :: bys Y)) 0 = s1) (h2 : sumI l s1 = s2) :
    ∃ h1, Runs Try.prog 27 [.int .u8 17, slB 0 l, .agg (.bool v :: bys X), .agg (.bool v :: bys Y)] [farB l] (.bool (decide (s2 = 65535))) h1 := by
  have hn : 8 ≤ l.length := by rcases segR_len hr with h | h <;> omega
  have hwX : adrWf (List.take 17 (AV.bool v :: bys X)) = true := by rw [adrB_17 hX]; exact adrB_wf hX
  have hwY : adrWf (List.take 17 (AV.bool v :: bys Y)) = true := by rw [adrB_17 hY]; exact adrB_wf hY
  have hv : adrV6 (List.take 17 (AV.bool v :: bys X)) = adrV6 (List.take 17 (AV.bool v :: bys Y)) := rfl
  have hsr : 0 ≤ s1 ∧ s1 < 65536 := by rw [← h1]; exact sumI_range _ _
  have hps : nOf (.sl (some (4, 0)) (pseudoL 17 l.length (.bool v :: bys X) (.bool v :: bys Y)).length 0 false) ≤ 70368744177664 := by
    show (pseudoL 17 l.length (.bool v :: bys X) (.bool v :: bys Y)).length ≤ _
    rw [pseudoL_even _ _ _ _ _ hX hY]; cases v <;> decide
  refine Runs.valT0 (tGoodOk (pseudoL 17 l.length (.bool v :: bys X) (.bool v :: bys Y)) (hd7 (word l 0) (word l 2) (segF 17 l)) (word l 6) s1 s2) (F := 100) (n := 4) (pr := [(20, .bool false), (26, .bool false), (39, .bool false)]) ?_
  refine (nfGoodB l (pseudoL 17 l.length (.bool v :: bys X) (.bool v :: bys Y)) X Y v v (word l 0) (word l 6) (word l 2) (segF 17 l) s1 s2 _).trans ?_
  refine (if_pos (cdec_true.2 (saySegR (bOk_row rfl rfl rfl) hl (segRead_Y hr).1))).trans ?_
  refine (if_pos (by simp)).trans ?_
  refine (if_pos (cdec_true.2 (sayW (l := l) (bOk_row rfl rfl rfl) ⟨by simp; omega, by decide, by simp; omega⟩ (by decide) rfl))).trans ?_
  refine (if_pos (by simp [hs0])).trans ?_
  refine (if_pos (by simp [hX, hY])).trans ?_
  refine (if_pos (by simp [hX, hY])).trans ?_
  refine (if_pos (cdec_true.2 (sayPs hwX hwY (by decide) (by omega) hv (by rw [adrB_17 hX, adrB_17 hY]) rfl))).trans ?_
  refine (if_pos (cdec_true.2 (saySum (bOk_row rfl rfl rfl) ⟨hps, by decide⟩ h1))).trans ?_
  refine (if_pos (cdec_true.2 ((by rw [wrapU32 (by omega)]; exact saySum (bOk_row rfl rfl rfl) ⟨by simp; omega, by omega⟩ h2)))).trans ?_
  rfl

theorem runRGoodB4 (a0 a1 a2 a3 b0 b1 b2 b3 : UInt8) (l X Y : List UInt8) (s2 : Int) (hl : l.length ≤ 1000000000000) (hX : X.length = 16) (hY : Y.length = 16) (hr : segR 17 l = 0) (hs0 : word l 6 ≠ 0) (hA : adrBytes (.bool false :: bys X) = [a0, a1, a2, a3]) (hB : adrBytes (.bool false :: bys Y) = [b0, b1, b2, b3]) (h2 : sumI ((pseudoL 17 l.length (.bool false :: bys X) (.bool false :: bys Y)) ++ l) 0 = s2) :
    ∃ h1, Runs Try.prog 28 [.int .u8 17, slB 0 l, .agg (.bool false :: bys X), .agg (.bool false :: bys Y)] [farB l] (.bool (decide (s2 = 65535))) h1 := by
  have hn : 8 ≤ l.length := by rcases segR_len hr with h | h <;> omega
  have hwX : adrWf (List.take 17 (AV.bool false :: bys X)) = true := by rw [adrB_17 hX]; exact adrB_wf hX
  have hwY : adrWf (List.take 17 (AV.bool false :: bys Y)) = true := by rw [adrB_17 hY]; exact adrB_wf hY
  have hAX : adrBytes (List.take 17 (AV.bool false :: bys X)) = [a0, a1, a2, a3] := by rw [adrB_17 hX]; exact hA
  have hBY : adrBytes (List.take 17 (AV.bool false :: bys Y)) = [b0, b1, b2, b3] := by rw [adrB_17 hY]; exact hB
  have f1 : ∀ x : Int, IntKind.u8.wrap x = ((u8i x).toNat : Int) := fun x => wrapU8_byte x
  have hcell : ([AV.int IntKind.u8 (a0.toNat : Int), AV.int IntKind.u8 (a1.toNat : Int), AV.int IntKind.u8 (a2.toNat : Int), AV.int IntKind.u8 (a3.toNat : Int), AV.int IntKind.u8 (b0.toNat : Int), AV.int IntKind.u8 (b1.toNat : Int), AV.int IntKind.u8 (b2.toNat : Int), AV.int IntKind.u8 (b3.toNat : Int), AV.int IntKind.u8 0, AV.int IntKind.u8 17, AV.int IntKind.u8 (IntKind.u8.wrap (((l.length : Int)).fdiv 256)), AV.int IntKind.u8 (IntKind.u8.wrap (l.length : Int))] ++ List.take (l.length * 1) (bys l)) = bys ((pseudoL 17 l.length (.bool false :: bys X) (.bool false :: bys Y)) ++ l) := by
    unfold pseudoL
    rw [hA, hB, bys_full]
    simp only [f1]
    rw [if_neg (by simp [adrV6])]
    have e8 : ((l.length : Int)).fdiv 1 = (l.length : Int) := by rw [Int.fdiv_eq_ediv_of_nonneg _ (by omega), Int.ediv_one]
    rw [bigR8_2, e8]; rfl
  refine Runs.valT0 (tRGoodOk 10 [a0, a1, a2, a3] [b0, b1, b2, b3] (rd7 (word l 0) (word l 2) (segF 17 l)) (word l 6) s2) (F := 100) (n := 4) (pr := [(20, .bool false), (26, .bool false), (33, .bool false)]) ?_
  refine (nfRGoodB4 a0 a1 a2 a3 b0 b1 b2 b3 l [] X Y false false (word l 0) (word l 6) (word l 2) (segF 17 l) 0 s2 _).trans ?_
  refine (if_pos (cdec_true.2 (sayRSegR (bOk_row rfl rfl rfl) hl (segRead_Y hr).2))).trans ?_
  refine (if_pos (cdec_true.2 (sayBe (l := l) (bOk_row rfl rfl rfl) ⟨by simp; omega, by decide, by simp; omega⟩ (by decide) rfl))).trans ?_
  refine (if_pos (by simp [hs0])).trans ?_
  refine (if_pos (by simp [hX, hY])).trans ?_
  refine (if_pos (cdec_true.2 (sayBytes hwX hAX rfl))).trans ?_
  refine (if_pos (by simp [hX, hY])).trans ?_
  refine (if_pos (cdec_true.2 (sayBytes hwY hBY rfl))).trans ?_
  refine (if_pos (by simp [hX, hY])).trans ?_
  refine (if_pos (AV.beq_self _)).trans ?_
  refine (if_pos (by first | exact True.intro | rfl | omega | (simp; done) | (simp; omega) | (simp [capOf]; done) | (simp [capOf]; omega))).trans ?_
  refine (if_pos (by first | exact True.intro | rfl | omega | (simp; done) | (simp; omega) | (simp [capOf]; done) | (simp [capOf]; omega))).trans ?_
  refine (if_pos (by first | exact True.intro | rfl | omega | (simp; done) | (simp; omega) | (simp [capOf]; done) | (simp [capOf]; omega))).trans ?_
  refine (if_pos (cdec_true.2 (sayRSum (l := (pseudoL 17 l.length (.bool false :: bys X) (.bool false :: bys Y)) ++ l) (bOk_row rfl hcell (by simp [pseudoL, hA, hB, adrV6, bigR8_2, bigR8_4] <;> omega)) (by simp <;> omega) h2))).trans ?_
  rfl

theorem runRGoodB6 (a0 a1 a2 a3 a4 a5 a6 a7 a8 a9 a10 a11 a12 a13 a14 a15 b0 b1 b2 b3 b4 b5 b6 b7 b8 b9 b10 b11 b12 b13 b14 b15 : UInt8) (l X Y : List UInt8) (s2 : Int) (hl : l.length ≤ 1000000000000) (hX : X.length = 16) (hY : Y.length = 16) (hr : segR 17 l = 0) (hs0 : word l 6 ≠ 0) (hA : adrBytes (.bool true :: bys X) = [a0, a1, a2, a3, a4, a5, a6, a7, a8, a9, a10, a11, a12, a13, a14, a15]) (hB : adrBytes (.bool true :: bys Y) = [b0, b1, b2, b3, b4, b5, b6, b7, b8, b9, b10, b11, b12, b13, b14, b15]) (h2 : sumI ((pseudoL 17 l.length (.bool true :: bys X) (.bool true :: bys Y)) ++ l) 0 = s2) :
    ∃ h1, Runs Try.prog 28 [.int .u8 17, slB 0 l, .agg (.bool true :: bys X), .agg (.bool true :: bys Y)] [farB l] (.bool (decide (s2 = 65535))) h1 := by
  have hn : 8 ≤ l.length := by rcases segR_len hr with h | h <;> omega
  have hwX : adrWf (List.take 17 (AV.bool true :: bys X)) = true := by rw [adrB_17 hX]; exact adrB_wf hX
  have hwY : adrWf (List.take 17 (AV.bool true :: bys Y)) = true := by rw [adrB_17 hY]; exact adrB_wf hY
  have hAX : adrBytes (List.take 17 (AV.bool true :: bys X)) = [a0, a1, a2, a3, a4, a5, a6, a7, a8, a9, a10, a11, a12, a13, a14, a15] := by rw [adrB_17 hX]; exact hA
  have hBY : adrBytes (List.take 17 (AV.bool true :: bys Y)) = [b0, b1, b2, b3, b4, b5, b6, b7, b8, b9, b10, b11, b12, b13, b14, b15] := by rw [adrB_17 hY]; exact hB
  have f1 : ∀ x : Int, IntKind.u8.wrap x = ((u8i x).toNat : Int) := fun x => wrapU8_byte x
  have hcell : ([AV.int IntKind.u8 (a0.toNat : Int), AV.int IntKind.u8 (a1.toNat : Int), AV.int IntKind.u8 (a2.toNat : Int), AV.int IntKind.u8 (a3.toNat : Int), AV.int IntKind.u8 (a4.toNat : Int), AV.int IntKind.u8 (a5.toNat : Int), AV.int IntKind.u8 (a6.toNat : Int), AV.int IntKind.u8 (a7.toNat : Int), AV.int IntKind.u8 (a8.toNat : Int), AV.int IntKind.u8 (a9.toNat : Int), AV.int IntKind.u8 (a10.toNat : Int), AV.int IntKind.u8 (a11.toNat : Int), AV.int IntKind.u8 (a12.toNat : Int), AV.int IntKind.u8 (a13.toNat : Int), AV.int IntKind.u8 (a14.toNat : Int), AV.int IntKind.u8 (a15.toNat : Int), AV.int IntKind.u8 (b0.toNat : Int), AV.int IntKind.u8 (b1.toNat : Int), AV.int IntKind.u8 (b2.toNat : Int), AV.int IntKind.u8 (b3.toNat : Int), AV.int IntKind.u8 (b4.toNat : Int), AV.int IntKind.u8 (b5.toNat : Int), AV.int IntKind.u8 (b6.toNat : Int), AV.int IntKind.u8 (b7.toNat : Int), AV.int IntKind.u8 (b8.toNat : Int), AV.int IntKind.u8 (b9.toNat : Int), AV.int IntKind.u8 (b10.toNat : Int), AV.int IntKind.u8 (b11.toNat : Int), AV.int IntKind.u8 (b12.toNat : Int), AV.int IntKind.u8 (b13.toNat : Int), AV.int IntKind.u8 (b14.toNat : Int), AV.int IntKind.u8 (b15.toNat : Int), AV.int IntKind.u8 (IntKind.u8.wrap (((l.length : Int)).fdiv 16777216)), AV.int IntKind.u8 (IntKind.u8.wrap (((l.length : Int)).fdiv 65536)), AV.int IntKind.u8 (IntKind.u8.wrap (((l.length : Int)).fdiv 256)), AV.int IntKind.u8 (IntKind.u8.wrap (l.length : Int)), AV.int IntKind.u8 0, AV.int IntKind.u8 0, AV.int IntKind.u8 0, AV.int IntKind.u8 17] ++ List.take (l.length * 1) (bys l)) = bys ((pseudoL 17 l.length (.bool true :: bys X) (.bool true :: bys Y)) ++ l) := by
    unfold pseudoL
    rw [hA, hB, bys_full]
    simp only [f1]
    rw [if_pos (show adrV6 (AV.bool true :: bys X) = true by simp [adrV6])]
    have e8 : ((l.length : Int)).fdiv 1 = (l.length : Int) := by rw [Int.fdiv_eq_ediv_of_nonneg _ (by omega), Int.ediv_one]
    rw [bigR8_4, e8]; rfl
  refine Runs.valT0 (tRGoodOk 10 [a0, a1, a2, a3, a4, a5, a6, a7, a8, a9, a10, a11, a12, a13, a14, a15] [b0, b1, b2, b3, b4, b5, b6, b7, b8, b9, b10, b11, b12, b13, b14, b15] (rd7 (word l 0) (word l 2) (segF 17 l)) (word l 6) s2) (F := 100) (n := 4) (pr := [(20, .bool false), (26, .bool false), (33, .bool false)]) ?_
  refine (nfRGoodB6 a0 a1 a2 a3 a4 a5 a6 a7 a8 a9 a10 a11 a12 a13 a14 a15 b0 b1 b2 b3 b4 b5 b6 b7 b8 b9 b10 b11 b12 b13 b14 b15 l [] X Y false false (word l 0) (word l 6) (word l 2) (segF 17 l) 0 s2 _).trans ?_
  refine (if_pos (cdec_true.2 (sayRSegR (bOk_row rfl rfl rfl) hl (segRead_Y hr).2))).trans ?_
  refine (if_pos (cdec_true.2 (sayBe (l := l) (bOk_row rfl rfl rfl) ⟨by simp; omega, by decide, by simp; omega⟩ (by decide) rfl))).trans ?_
  refine (if_pos (by simp [hs0])).trans ?_
  refine (if_pos (by simp [hX, hY])).trans ?_
  refine (if_pos (cdec_true.2 (sayBytes hwX hAX rfl))).trans ?_
  refine (if_pos (by simp [hX, hY])).trans ?_
  refine (if_pos (cdec_true.2 (sayBytes hwY hBY rfl))).trans ?_
  refine (if_pos (by simp [hX, hY])).trans ?_
  refine (if_pos (AV.beq_self _)).trans ?_
  refine (if_pos (by first | exact True.intro | rfl | omega | (simp; done) | (simp; omega) | (simp [capOf]; done) | (simp [capOf]; omega))).trans ?_
  refine (if_pos (by first | exact True.intro | rfl | omega | (simp; done) | (simp; omega) | (simp [capOf]; done) | (simp [capOf]; omega))).trans ?_
  refine (if_pos (by first | exact True.intro | rfl | omega | (simp; done) | (simp; omega) | (simp [capOf]; done) | (simp [capOf]; omega))).trans ?_
  refine (if_pos (cdec_true.2 (sayRSum (l := (pseudoL 17 l.length (.bool true :: bys X) (.bool true :: bys Y)) ++ l) (bOk_row rfl hcell (by simp [pseudoL, hA, hB, adrV6, bigR8_2, bigR8_4] <;> omega)) (by simp <;> omega) h2))).trans ?_
  rfl

theorem runGoodC (l X Y : List UInt8) (v : Bool) (hl : l.length ≤ 1000000000000) (hX : X.length = 16) (hY : Y.length = 16) (hr : segR 17 l = 0) (hs0 : word l 6 = 0) :
    ∃ h1, Runs Try.prog 27 [.int .u8 17, slB 0 l, .agg (.bool v :: bys X), .agg (.bool v :: bys Y)] [farB l] (.bool (true)) h1 := by
  have hn : 8 ≤ l.length := by rcases segR_len hr with h | h <;> omega
  have hwX : adrWf (List.take 17 (AV.bool v :: bys X)) = true := by rw [adrB_17 hX]; exact adrB_wf hX
  have hwY : adrWf (List.take 17 (AV.bool v :: bys Y)) = true := by rw [adrB_17 hY]; exact adrB_wf hY
  have hv : adrV6 (List.take 17 (AV.bool v :: bys X)) = adrV6 (List.take 17 (AV.bool v :: bys Y)) := rfl
  refine Runs.valT0 (tGoodOk [] (hd7 (word l 0) (word l 2) (segF 17 l)) (word l 6) 0 0) (F := 100) (n := 4) (pr := [(20, .bool false), (26, .bool false), (39, .bool true)]) ?_
  refine (nfGoodC l [] X Y v v (word l 0) (word l 6) (word l 2) (segF 17 l) 0 0 _).trans ?_
  refine (if_pos (cdec_true.2 (saySegR (bOk_row rfl rfl rfl) hl (segRead_Y hr).1))).trans ?_
  refine (if_pos (by simp)).trans ?_
  refine (if_pos (cdec_true.2 (sayW (l := l) (bOk_row rfl rfl rfl) ⟨by simp; omega, by decide, by simp; omega⟩ (by decide) rfl))).trans ?_
  refine (if_pos (by simp [hs0])).trans ?_
  rfl

theorem runRGoodC (l X Y : List UInt8) (v : Bool) (hl : l.length ≤ 1000000000000) (hX : X.length = 16) (hY : Y.length = 16) (hr : segR 17 l = 0) (hs0 : word l 6 = 0) :
    ∃ h1, Runs Try.prog 28 [.int .u8 17, slB 0 l, .agg (.bool v :: bys X), .agg (.bool v :: bys Y)] [farB l] (.bool (true)) h1 := by
  have hn : 8 ≤ l.length := by rcases segR_len hr with h | h <;> omega
  refine Runs.valT0 (tRGoodOk 10 [] [] (rd7 (word l 0) (word l 2) (segF 17 l)) (word l 6) 0) (F := 100) (n := 4) (pr := [(20, .bool false), (26, .bool false), (33, .bool true)]) ?_
  refine (nfRGoodC l [] X Y v v (word l 0) (word l 6) (word l 2) (segF 17 l) 0 0 _).trans ?_
  refine (if_pos (cdec_true.2 (sayRSegR (bOk_row rfl rfl rfl) hl (segRead_Y hr).2))).trans ?_
  refine (if_pos (by simp)).trans ?_
  refine (if_pos (cdec_true.2 (sayBe (l := l) (bOk_row rfl rfl rfl) ⟨by simp; omega, by decide, by simp; omega⟩ (by decide) rfl))).trans ?_
  refine (if_pos (by simp [hs0])).trans ?_
  rfl

theorem sGoodS : SoundE Try.prog 27 (entF eGoodS) := by
  refine canonV_sound fun args h v' h' hg => ?_
  unfold eGoodS at hg
  split at hg
  · rename_i p b cs ds
    simp only [Option.some.injEq, Prod.mk.injEq, Bool.and_eq_true, decide_eq_true_eq] at hg
    obtain ⟨⟨hb, hwc, hwd, hn, hp⟩, rfl, rfl⟩ := hg
    rw [← bOk_len hb] at hn
    obtain ⟨v, X, rfl, hX⟩ := adrWf_B hwc
    obtain ⟨w, Y, rfl, hY⟩ := adrWf_B hwd
    refine ⟨rfl, rfl, [.int .u8 p, slB 0 (bOf h b), .agg (.bool v :: bys X), .agg (.bool w :: bys Y)], [farB (bOf h b)], .cons _ _ _ _ _ _ _ (.flat _ _ rfl) (.cons _ _ _ _ _ _ _ (bOk_canon hb 0) (.cons _ _ _ _ _ _ _ (.flat _ _ adrB_free) (.cons _ _ _ _ _ _ _ (.flat _ _ adrB_free) (.nil _)))), ?_⟩
    generalize bOf h b = l at hn
    by_cases hr : segR p l = 0
    case neg =>
      have hg : goodS p l (.bool v :: bys X) (.bool w :: bys Y) = false := by unfold goodS; rw [decide_eq_false (fun h => hr h.1)]; rfl
      rw [hg]
      refine Runs.valT0 (tGoodOk [] (hd7N (segR p l)) (segR p l) 0 0) (F := 100) (n := 4) (pr := [(20, .bool true)]) ?_
      refine (nfGoodE p l [] X Y v w 0 (segR p l) 0 0 0 0 _).trans ?_
      refine (if_pos (cdec_true.2 (saySegR (bOk_row rfl rfl rfl) hn (segRead_N rfl hr).1))).trans ?_
      refine (if_pos (by first | exact True.intro | rfl | omega | (simp; done) | (simp; omega) | (simp [capOf]; done) | (simp [capOf]; omega))).trans ?_
      rfl
    by_cases hvw : v = w
    case neg =>
      have hg : goodS p l (.bool v :: bys X) (.bool w :: bys Y) = false := by unfold goodS; rw [decide_eq_false (fun h => hvw h.2)]; rfl
      rw [hg]
      refine Runs.valT0 (tGoodOk [] (hd7 (word l 0) (word l 2) (segF p l)) 0 0 0) (F := 100) (n := 4) (pr := [(20, .bool false), (26, .bool true)]) ?_
      refine (nfGoodF p l [] X Y v w (word l 0) 0 (word l 2) (segF p l) 0 0 _).trans ?_
      refine (if_pos (cdec_true.2 (saySegR (bOk_row rfl rfl rfl) hn (segRead_Y hr).1))).trans ?_
      refine (if_pos (by simp [boolV]; exact hvw)).trans ?_
      rfl
    subst hvw
    have g0 : ∀ b1 : Bool, (decide (segR p l = 0 ∧ adrV6 (.bool v :: bys X) = adrV6 (.bool v :: bys Y)) && b1) = b1 := fun b1 => by rw [decide_eq_true ⟨hr, rfl⟩]; rfl
    unfold goodS
    rw [g0]
    rcases segR_len hr with ⟨rfl, hn20⟩ | ⟨rfl, hn8⟩
    · rw [decide_eq_false (fun h => absurd h.1 (by decide)), Bool.false_or]
      exact runGoodA l X Y v _ _ hn hX hY hr rfl rfl
    · by_cases hs : word l 6 = 0
      · rw [decide_eq_true ⟨rfl, hs⟩, Bool.true_or]
        exact runGoodC l X Y v hn hX hY hr hs
      · rw [decide_eq_false (fun h => hs h.2), Bool.false_or]
        exact runGoodB l X Y v _ _ hn hX hY hr hs rfl rfl
  · simp at hg

theorem sRGoodS : SoundE Try.prog 28 (entF eGoodS) := by
  refine canonV_sound fun args h v' h' hg => ?_
  unfold eGoodS at hg
  split at hg
  · rename_i p b cs ds
    simp only [Option.some.injEq, Prod.mk.injEq, Bool.and_eq_true, decide_eq_true_eq] at hg
    obtain ⟨⟨hb, hwc, hwd, hn, hp⟩, rfl, rfl⟩ := hg
    rw [← bOk_len hb] at hn
    obtain ⟨v, X, rfl, hX⟩ := adrWf_B hwc
    obtain ⟨w, Y, rfl, hY⟩ := adrWf_B hwd
    refine ⟨rfl, rfl, [.int .u8 p, slB 0 (bOf h b), .agg (.bool v :: bys X), .agg (.bool w :: bys Y)], [farB (bOf h b)], .cons _ _ _ _ _ _ _ (.flat _ _ rfl) (.cons _ _ _ _ _ _ _ (bOk_canon hb 0) (.cons _ _ _ _ _ _ _ (.flat _ _ adrB_free) (.cons _ _ _ _ _ _ _ (.flat _ _ adrB_free) (.nil _)))), ?_⟩
    generalize bOf h b = l at hn
    by_cases hr : segR p l = 0
    case neg =>
      have hg : goodS p l (.bool v :: bys X) (.bool w :: bys Y) = false := by unfold goodS; rw [decide_eq_false (fun h => hr h.1)]; rfl
      rw [hg]
      refine Runs.valT0 (tRGoodOk 10 [] [] (rd7N (segR p l)) (segR p l) 0) (F := 100) (n := 4) (pr := [(20, .bool true)]) ?_
      refine (nfRGoodE p l [] X Y v w 0 (segR p l) 0 0 0 0 _).trans ?_
      refine (if_pos (cdec_true.2 (sayRSegR (bOk_row rfl rfl rfl) hn (segRead_N rfl hr).2))).trans ?_
      refine (if_pos (by first | exact True.intro | rfl | omega | (simp; done) | (simp; omega) | (simp [capOf]; done) | (simp [capOf]; omega))).trans ?_
      rfl
    by_cases hvw : v = w
    case neg =>
      have hg : goodS p l (.bool v :: bys X) (.bool w :: bys Y) = false := by unfold goodS; rw [decide_eq_false (fun h => hvw h.2)]; rfl
      rw [hg]
      refine Runs.valT0 (tRGoodOk 10 [] [] (rd7 (word l 0) (word l 2) (segF p l)) 0 0) (F := 100) (n := 4) (pr := [(20, .bool false), (26, .bool true)]) ?_
      refine (nfRGoodF p l [] X Y v w (word l 0) 0 (word l 2) (segF p l) 0 0 _).trans ?_
      refine (if_pos (cdec_true.2 (sayRSegR (bOk_row rfl rfl rfl) hn (segRead_Y hr).2))).trans ?_
      refine (if_pos (by simp [boolV]; exact hvw)).trans ?_
      rfl
    subst hvw
    have g0 : ∀ b1 : Bool, (decide (segR p l = 0 ∧ adrV6 (.bool v :: bys X) = adrV6 (.bool v :: bys Y)) && b1) = b1 := fun b1 => by rw [decide_eq_true ⟨hr, rfl⟩]; rfl
    unfold goodS
    rw [g0]
    have hev : (pseudoL p l.length (.bool v :: bys X) (.bool v :: bys Y)).length % 2 = 0 := by rw [pseudoL_even _ _ _ _ _ hX hY]; cases v <;> decide
    rw [← sumI_append hev (Int.le_refl 0)]
    cases v
    · obtain ⟨a0, a1, a2, a3, hA⟩ := four_of (l := adrBytes (.bool false :: bys X)) (by rw [adrB_F]; simp [hX])
      obtain ⟨b0, b1, b2, b3, hB⟩ := four_of (l := adrBytes (.bool false :: bys Y)) (by rw [adrB_F]; simp [hY])
      rcases segR_len hr with ⟨rfl, hn20⟩ | ⟨rfl, hn8⟩
      · rw [decide_eq_false (fun h => absurd h.1 (by decide)), Bool.false_or]
        exact runRGoodA4 a0 a1 a2 a3 b0 b1 b2 b3 l X Y _ hn hX hY hr hA hB rfl
      · by_cases hs : word l 6 = 0
        · rw [decide_eq_true ⟨rfl, hs⟩, Bool.true_or]
          exact runRGoodC l X Y false hn hX hY hr hs
        · rw [decide_eq_false (fun h => hs h.2), Bool.false_or]
          exact runRGoodB4 a0 a1 a2 a3 b0 b1 b2 b3 l X Y _ hn hX hY hr hs hA hB rfl
    · obtain ⟨a0, a1, a2, a3, a4, a5, a6, a7, a8, a9, a10, a11, a12, a13, a14, a15, hA⟩ := sixteen_of (l := adrBytes (.bool true :: bys X)) (by rw [adrB_T]; exact hX)
      obtain ⟨b0, b1, b2, b3, b4, b5, b6, b7, b8, b9, b10, b11, b12, b13, b14, b15, hB⟩ := sixteen_of (l := adrBytes (.bool true :: bys Y)) (by rw [adrB_T]; exact hY)
      rcases segR_len hr with ⟨rfl, hn20⟩ | ⟨rfl, hn8⟩
      · rw [decide_eq_false (fun h => absurd h.1 (by decide)), Bool.false_or]
        exact runRGoodA6 a0 a1 a2 a3 a4 a5 a6 a7 a8 a9 a10 a11 a12 a13 a14 a15 b0 b1 b2 b3 b4 b5 b6 b7 b8 b9 b10 b11 b12 b13 b14 b15 l X Y _ hn hX hY hr hA hB rfl
      · by_cases hs : word l 6 = 0
        · rw [decide_eq_true ⟨rfl, hs⟩, Bool.true_or]
          exact runRGoodC l X Y true hn hX hY hr hs
        · rw [decide_eq_false (fun h => hs h.2), Bool.false_or]
          exact runRGoodB6 a0 a1 a2 a3 a4 a5 a6 a7 a8 a9 a10 a11 a12 a13 a14 a15 b0 b1 b2 b3 b4 b5 b6 b7 b8 b9 b10 b11 b12 b13 b14 b15 l X Y _ hn hX hY hr hs hA hB rfl
  · simp at hg

theorem sayGoodS {h : AHeap} {a : AV} {l : List UInt8} {p : Int} {cs ds : List AV} {b : Bool} (g : bOk h a = true ∧ bOf h a = l) (hc : adrWf cs = true) (hd : adrWf ds = true) (hn : nOf a ≤ 1000000000000) (hp : 0 ≤ p ∧ p < 256) (hb : goodS p l cs ds = b) : Says eGoodS [.int .u8 p, a, .agg cs, .agg ds] h (.bool b) [] := ⟨by
  show some (bOk h a && (adrWf cs && (adrWf ds && decide (nOf a ≤ 1000000000000 ∧ 0 ≤ p ∧ p < 256))), AV.bool (goodS p (bOf h a) cs ds), h) = _
  rw [g.1, g.2, hc, hd, hb, decide_eq_true ⟨hn, hp⟩, List.append_nil]; rfl⟩

end Go.Proofs.Ythbneddbigclfaa.L
